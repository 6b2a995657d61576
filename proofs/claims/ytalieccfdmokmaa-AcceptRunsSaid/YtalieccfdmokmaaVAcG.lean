/-
  The walks of layer 14's laws, the fourth part: AcceptRuns.
-/
import Derived.Test.YtalieccfdmokmaaVAcF
import Derived.Test.YtalieccfdmokmaaVAcC
namespace Go.Proofs.Ytalieccfdmokmaa
set_option linter.unusedSimpArgs false
set_option linter.unusedVariables false
set_option maxRecDepth 20000
open Go.V Go.RowKit Go.ChangeShapes Go.WideShapes

structure Act14 where
  dov : Int
  ballot : Int
  slot : Int
  ns : Value
def Act14.L (a : Act14) : List Value := [.int .i64 a.dov, .int .i64 a.ballot, .int .i64 a.slot, a.ns]
instance : Row Act14 := ⟨4, Act14.L, ⟨0, 0, 0, .slice none 0 0⟩, fun _ => rfl, rfl⟩
def Act14.Good (w : World) (a : Act14) : Prop := I64 a.dov ∧ I64 a.ballot ∧ I64 a.slot ∧ (∃ xs : List UInt8, Rs (Old w) w a.ns xs ∧ ∀ y ∈ xs, True)
theorem Act14.opens : Opens Try.prog (α := Act14) 86 Act14.Good := fun H enc w base spare held fuel cs x hl h => by
  obtain ⟨u0, u1, u2, u3, rfl⟩ := list4 hl
  obtain ⟨m0, hf0⟩ := open_fields Try.underlying86 h
  obtain ⟨y0, t0⟩ := hf0 0 _ 1 rfl (by kernel_rfl)
  obtain ⟨a0, e0, -, w0⟩ := DataW.trod_int Try.underlying3 t0
  obtain rfl : u0 = _ := by simpa using e0
  obtain ⟨y1, t1⟩ := hf0 1 _ 1 rfl (by kernel_rfl)
  obtain ⟨a1, e1, -, w1⟩ := DataW.trod_int Try.underlying3 t1
  obtain rfl : u1 = _ := by simpa using e1
  obtain ⟨y2, t2⟩ := hf0 2 _ 1 rfl (by kernel_rfl)
  obtain ⟨a2, e2, -, w2⟩ := DataW.trod_int Try.underlying3 t2
  obtain rfl : u2 = _ := by simpa using e2
  obtain ⟨y3, t3⟩ := hf0 3 _ 1 rfl (by kernel_rfl)
  obtain ⟨a3, xs3, e3, r3, g3⟩ := Opens.rows (β := UInt8) Try.underlying22 (opens_u8 Try.underlying5) (by kernel_rfl) t3
  obtain rfl : u3 = _ := by simpa using e3
  have o3 := r3.oneC
  exact ⟨⟨a0, a1, a2, u3⟩, rfl, (by first | rfl | (simp only [Row.cells, Act14.L]; repeat (first | rfl | refine Bool.and_eq_true_iff.2 ⟨(by first | rfl | assumption), ?_⟩))), ⟨i64_wf w0, i64_wf w1, i64_wf w2, ⟨xs3, r3, g3⟩⟩⟩
theorem prom_l (s : AcS) (b : Int) : (promM s b).1.l = s.l := by
  unfold promM
  split
  · split <;> rfl
  · rfl
set_option maxHeartbeats 32000000 in
theorem AcceptRuns_c {F : Nat → Prop} {v : Value} {acts : List Act14} (raw : Bat) {rq : List Rq} (w : World) (hv : Rs F w v acts) (hq : Rs (Old w) w raw.reqs rq) (hsq : smallQ rq) (hg : ∀ a ∈ acts, ∃ xs : List UInt8, Rs (Old w) w a.ns xs ∧ xs.length ≤ 140737488355328) :
    Calls Try.prog 12 #[v, agg raw] w fun e w' => e = .returned (.bool true) ∧ Ext0 w w' := by
  obtain ⟨q1, q2, ⟨q3, q4⟩, q5, q6⟩ := raw
  dsimp only at hq
  have H := ((SH.start w).arg hv).arg hq
  have h63 := hv.len63
  have hoq : oneC q6 = true := Rs.oneC hq
  refine calls_of_CW Try.func12 rfl Try.ntmps12 (Nat.le_of_ble_eq_true rfl) ?_
  simp only [argE, argFrom, Nat.reduceAdd]
  refine CW.seq (fun K1 h1 => ?_)
  refine CW.region ?_
  refine s_box H rfl (by simp only [upd_get, ev, Nat.reduceEqDiff, ↓reduceIte] <;> rfl) rfl ?_
  clear H
  intro b0_0 w0_0 H
  try dsimp only [replC, List.cons_append, List.nil_append, List.append_nil, agg, cellsL, Value.cells, List.toList_toArray, List.set_cons_zero, List.set_cons_succ, spliceL, List.take_succ_cons, List.take_zero, List.drop_succ_cons, List.drop_zero, List.length_cons, List.length_nil, Nat.reduceAdd, Row.cells, Cm.L, Rq.L, Tp.L, Bat.L, Vt.L, Act14.L] at H
  refine r_assign rfl ?_
  refine LW.nil ?_
  refine thenE_norm (h1 _ _ ?_); clear h1; try clear K1
  refine CW.seq (fun K2 h2 => ?_)
  refine CW.seq (fun K3 h3 => ?_)
  refine CW.region ?_
  refine r_move rfl ?_
  first
    | refine r_lenV rfl Try.underlying81 (by simp only [upd_get, ev, Nat.reduceEqDiff, ↓reduceIte] <;> rfl) (by first | assumption | exact SH.rsR H (by (repeat first | exact At.here | apply At.there); done) | exact SH.rsO H (by (repeat first | exact At.here | apply At.there); done) | exact (Rs.nil : Rs Non _ _ _)) ?_
    | refine r_len rfl Try.underlying81 rfl ?_
  refine r_gtr rfl rfl rfl ?_
  refine r_move rfl ?_
  refine LW.splitB (t := 13) rfl (fun hg1_4 => ?_) (fun hg1_4 => ?_)
  · have hg1_4P := hg1_4
    try simp only [decide_eq_true_eq, decide_eq_false_iff_not, Bool.and_eq_true, Bool.or_eq_true, Bool.and_eq_false_iff, Bool.or_eq_false_iff, Bool.not_eq_true', Bool.not_eq_false', beq_iff_eq, bne_iff_ne] at hg1_4P
    refine LW.skip rfl (fun _ e => by cases e; decide) rfl hg1_4 ?_
    refine LW.skip rfl (fun _ e => by cases e; decide) rfl hg1_4 ?_
    refine r_pickT rfl rfl hg1_4 ?_
    refine LW.nil ?_
    refine thenE_norm (h3 _ _ ?_); clear h3; try clear K3
    refine CW.condT rfl (by first | rfl | (simp only [decide_eq_true_eq, decide_eq_false_iff_not, Bool.and_eq_true, Bool.or_eq_true, Bool.and_eq_false_iff, Bool.or_eq_false_iff, Bool.not_eq_true', Bool.not_eq_false', beq_iff_eq, bne_iff_ne]; omega) | simp_all) ?_
    refine CW.seq (fun K4 h4 => ?_)
    refine CW.region ?_
    refine r_call rfl Try.call32 (by simp only [List.map_cons, List.map_nil, List.map_toArray, List.toList_toArray, upd_get, ev, Nat.reduceEqDiff, ↓reduceIte] <;> rfl) (awake14_c _) ?_
    rintro _ w2_0 ⟨rfl, X⟩
    refine ⟨_, rfl, ?_⟩
    replace H := SH.same H X
    clear X
    refine r_assign rfl ?_
    refine LW.nil ?_
    refine thenE_norm ?_
    refine cut (K := K4) [4] (fun σ => ?_)
    simp only [setL, keepE, upd_get, ev, Nat.reduceEqDiff, ↓reduceIte]
    refine h4 _ _ ?_; clear h4; try clear K4
    refine CW.ret (thenE_ret (ret1 Try.results12 (by simp only [upd_get, ev, Nat.reduceEqDiff, ↓reduceIte]; rfl) ?_))
    exact ⟨rfl, H.ext⟩
  · have hg1_4P := hg1_4
    try simp only [decide_eq_true_eq, decide_eq_false_iff_not, Bool.and_eq_true, Bool.or_eq_true, Bool.and_eq_false_iff, Bool.or_eq_false_iff, Bool.not_eq_true', Bool.not_eq_false', beq_iff_eq, bne_iff_ne] at hg1_4P
    refine LW.want rfl rfl hg1_4 ?_
    refine r_loadA rfl Try.isAgg27 Try.sizeOf27 rfl (by first | exact SH.cells H (by (repeat first | exact At.here | apply At.there); done)) (by rfl) ?_
    refine LW.want rfl rfl hg1_4 ?_
    refine r_call rfl Try.call41 (by simp only [List.map_cons, List.map_nil, List.map_toArray, List.toList_toArray, upd_get, ev, Nat.reduceEqDiff, ↓reduceIte] <;> rfl) (Great_c ⟨_, _, ⟨_, _⟩, _, _⟩ _ (hq.up0 (SH.ext H))) ?_
    rintro _ w1_5 ⟨rfl, X⟩
    refine ⟨_, rfl, ?_⟩
    replace H := SH.same H X
    clear X
    refine r_pickF rfl rfl hg1_4 ?_
    refine LW.nil ?_
    refine thenE_norm ?_
    refine cut (K := K3) [0, 3, 16] (fun σ => ?_)
    simp only [setL, keepE, upd_get, ev, Nat.reduceEqDiff, ↓reduceIte]
    refine h3 _ _ ?_; clear h3; try clear K3
    refine CW.cond rfl (fun hc1 => ?_) (fun hc1 => ?_)
    · try simp only [decide_eq_true_eq, decide_eq_false_iff_not, Bool.and_eq_true, Bool.or_eq_true, Bool.and_eq_false_iff, Bool.or_eq_false_iff, Bool.not_eq_true', Bool.not_eq_false', beq_iff_eq, bne_iff_ne, ne_eq, Decidable.not_not] at hc1
      refine CW.seq (fun K5 h5 => ?_)
      refine CW.region ?_
      refine r_call rfl Try.call32 (by simp only [List.map_cons, List.map_nil, List.map_toArray, List.toList_toArray, upd_get, ev, Nat.reduceEqDiff, ↓reduceIte] <;> rfl) (awake14_c _) ?_
      rintro _ w2_0 ⟨rfl, X⟩
      refine ⟨_, rfl, ?_⟩
      replace H := SH.same H X
      clear X
      refine r_assign rfl ?_
      refine LW.nil ?_
      refine thenE_norm (h5 _ _ ?_); clear h5; try clear K5
      refine CW.ret (thenE_ret (ret1 Try.results12 (by simp only [upd_get, ev, Nat.reduceEqDiff, ↓reduceIte]; rfl) ?_))
      exact ⟨rfl, H.ext⟩
    · try simp only [decide_eq_true_eq, decide_eq_false_iff_not, Bool.and_eq_true, Bool.or_eq_true, Bool.and_eq_false_iff, Bool.or_eq_false_iff, Bool.not_eq_true', Bool.not_eq_false', beq_iff_eq, bne_iff_ne, ne_eq, Decidable.not_not] at hc1
      refine CW.skip ?_
      refine thenE_norm (h2 _ _ ?_); clear h2; try clear K2
      refine CW.seq (fun K6 h6 => ?_)
      refine CW.region ?_
      refine r_call rfl Try.call27 (by simp only [List.map_cons, List.map_nil, List.map_toArray, List.toList_toArray, upd_get, ev, Nat.reduceEqDiff, ↓reduceIte] <;> rfl) (AccNew_c _) ?_
      rintro _ w3_0 ⟨p, FN, rfl, K⟩
      refine ⟨_, rfl, ?_⟩
      replace H := SH.call H K
      clear K
      try dsimp only [replC, List.cons_append, List.nil_append, List.append_nil] at H
      refine r_buildQ rfl Try.underlying84 Try.zeroValue84 rfl (pl := [(0, 1), (1, 1), (2, 1)]) (by intro w; simp [go_sem]) (qs := []) (cs := [.int .i64 0, .int .i64 0, .slice none 0 0]) trivial rfl ?_
      refine s_box H rfl (by simp only [upd_get, ev, Nat.reduceEqDiff, ↓reduceIte] <;> rfl) rfl ?_
      clear H
      intro b3_2 w3_2 H
      try dsimp only [replC, List.cons_append, List.nil_append, List.append_nil, agg, cellsL, Value.cells, List.toList_toArray, List.set_cons_zero, List.set_cons_succ, spliceL, List.take_succ_cons, List.take_zero, List.drop_succ_cons, List.drop_zero, List.length_cons, List.length_nil, Nat.reduceAdd, Row.cells, Cm.L, Rq.L, Tp.L, Bat.L, Vt.L, Act14.L] at H
      refine r_assign rfl ?_
      refine r_assign rfl ?_
      refine LW.nil ?_
      refine thenE_norm (h6 _ _ ?_); clear h6; try clear K6
      refine CW.seq (fun K7 h7 => ?_)
      refine CW.seq (fun K8 h8 => ?_)
      refine CW.region ?_
      refine r_move rfl ?_
      refine r_eqlP rfl Try.underlying53 rfl rfl ?_
      refine LW.nil ?_
      refine thenE_norm (h8 _ _ ?_); clear h8; try clear K8
      refine CW.condF rfl (by first | rfl | (simp only [decide_eq_true_eq, decide_eq_false_iff_not, Bool.and_eq_true, Bool.or_eq_true, Bool.and_eq_false_iff, Bool.or_eq_false_iff, Bool.not_eq_true', Bool.not_eq_false', beq_iff_eq, bne_iff_ne]; omega) | simp_all) ?_
      refine CW.skip ?_
      refine thenE_norm (h7 _ _ ?_); clear h7; try clear K7
      refine CW.seq (fun K9 h9 => ?_)
      refine CW.seq (fun K10 h10 => ?_)
      have Ha : SH Non Any w w3_2 [.B b3_2 84 [.int .i64 0, .int .i64 0, .slice none 0 0], .O 61 (.slice none 0 0) ([] : List Vt) none, .R (Old w) v acts, .B b0_0 27 [.bool q1, .int .i64 q2, .int .i64 q3, .int .i64 q4, .int .i64 q5, q6], .R (Old w) q6 rq, .P FN (AccA p ⟨0, 0, []⟩ FN)] := SH.sel (H.addO (α := Vt) 61) [4, 5, 0, 2, 1, 3] (by decide) rfl
      obtain ⟨FR0, H2⟩ := RAcA.mkL Ha
      replace H : SH Non Any w w3_2 [.R (Old w) v acts, .B b0_0 27 [.bool q1, .int .i64 q2, .int .i64 q3, .int .i64 q4, .int .i64 q5, q6], .R (Old w) q6 rq, .P FN (AccA p ⟨0, 0, []⟩ FN), .P FR0 (RAcA b3_2 0 0 [] FR0), .I Non (VtsA Non [] [])] := SH.addI (SH.sel H2 [1, 2, 3, 4, 0] (by decide) rfl) vts_st trivial
      refine CW.region ?_
      refine r_assign rfl ?_
      refine LW.nil ?_
      refine thenE_norm ?_
      refine cut (K := K10) [0, 3, 5, 6, 7] (fun σ => ?_)
      simp only [setL, keepE, upd_get, ev, Nat.reduceEqDiff, ↓reduceIte]
      refine h10 _ _ ?_; clear h10; try clear K10
      refine CW.block ?_
      refine CW.loopR [0, 3, 5, 6] [7] (fun m vs w' => ∃ (i : Nat) (s : AcS) (raws : List Vt) (FA FR FI : Nat → Prop), vs = [.int .i64 i] ∧ i ≤ acts.length ∧ m = acts.length - i ∧ SH Non Any w w' [.R (Old w) v acts, .B b0_0 27 [.bool q1, .int .i64 q2, .int .i64 q3, .int .i64 q4, .int .i64 q5, q6], .R (Old w) q6 rq, .P FA (AccA p s FA), .P FR (RAcA b3_2 s.ballot s.done raws FR), .I FI (VtsA FI raws s.l)]) (acts.length) ?_ ?_
      · exact ⟨0, ⟨0, 0, []⟩, [], _, _, _, rfl, by omega, by omega, H⟩
      try clear H
      rintro n1 vs1 wL1 σ ⟨i, s, raws, FA, FR, FI, rfl, hi, rfl, H⟩
      simp only [setL, keepE, upd_get, ev, Nat.reduceEqDiff, ↓reduceIte]
      refine CW.seq (fun K11 h11 => ?_)
      refine CW.seq (fun K12 h12 => ?_)
      refine CW.region ?_
      refine r_move rfl ?_
      refine r_move rfl ?_
      first
        | refine r_lenV rfl Try.underlying81 (by simp only [upd_get, ev, Nat.reduceEqDiff, ↓reduceIte] <;> rfl) (by first | assumption | exact SH.rsR H (by (repeat first | exact At.here | apply At.there); done) | exact SH.rsO H (by (repeat first | exact At.here | apply At.there); done) | exact (Rs.nil : Rs Non _ _ _)) ?_
        | refine r_len rfl Try.underlying81 rfl ?_
      refine r_lss rfl rfl rfl ?_
      refine LW.nil ?_
      refine thenE_norm (h12 _ _ ?_); clear h12; try clear K12
      refine CW.cond rfl (fun hc3 => ?_) (fun hc3 => ?_)
      · try simp only [decide_eq_true_eq, decide_eq_false_iff_not, Bool.and_eq_true, Bool.or_eq_true, Bool.and_eq_false_iff, Bool.or_eq_false_iff, Bool.not_eq_true', Bool.not_eq_false', beq_iff_eq, bne_iff_ne, ne_eq, Decidable.not_not] at hc3
        refine CW.skip ?_
        refine thenE_norm (h11 _ _ ?_); clear h11; try clear K11
        refine CW.seq (fun K13 h13 => ?_)
        refine CW.block ?_
        refine CW.seq (fun K14 h14 => ?_)
        obtain ⟨a, ha⟩ := get_of_lt (show i < acts.length by omega)
        obtain ⟨xs, hxs, hxl⟩ := hg a (List.mem_of_getElem? ha)
        obtain ⟨a1, a2, a3, a4⟩ := a
        dsimp only at hxs
        have hoa : oneC a4 = true := Rs.oneC hxs
        have hok : OkS s := (SH.prop H (i := 3) rfl).1
        have hl9 := hok.len
        have hms : VtsA FI raws s.l wL1 := SH.propI H (i := 5) rfl
        have hrl : raws.length = s.l.length := All2.len hms
        have hup := all2_up vtr_key hms hok.up
        refine CW.region ?_
        refine r_move rfl ?_
        refine r_move rfl ?_
        refine r_indexAddrV rfl Try.underlying81 (by simp only [upd_get, ev, Nat.reduceEqDiff, ↓reduceIte] <;> rfl) rfl (by first | assumption | exact SH.rsR H (by (repeat first | exact At.here | apply At.there); done) | exact SH.rsO H (by (repeat first | exact At.here | apply At.there); done) | exact (Rs.nil : Rs Non _ _ _)) (by exact Try.sizeOf86) (by omega) (by omega) ?_
        refine r_loadA rfl Try.isAgg86 Try.sizeOf86 rfl (by first | exact Rs.cells0 (by first | assumption | exact SH.rsR H (by (repeat first | exact At.here | apply At.there); done) | exact SH.rsO H (by (repeat first | exact At.here | apply At.there); done) | exact (Rs.nil : Rs Non _ _ _)) (by assumption)) (by rfl) ?_
        refine s_alloc (cs := [.int .i64 0, .int .i64 0, .int .i64 0, .slice none 0 0]) H rfl Try.zeroValue86 rfl ?_
        clear H
        intro b9_4 w9_4 H
        try dsimp only [replC, List.cons_append, List.nil_append, List.append_nil, agg, cellsL, Value.cells, List.toList_toArray, List.set_cons_zero, List.set_cons_succ, spliceL, List.take_succ_cons, List.take_zero, List.drop_succ_cons, List.drop_zero, List.length_cons, List.length_nil, Nat.reduceAdd, Row.cells, Cm.L, Rq.L, Tp.L, Bat.L, Vt.L, Act14.L] at H
        refine s_storeA H Try.sizeOf86 rfl (by simp only [upd_get, ev, Nat.reduceEqDiff, ↓reduceIte] <;> rfl) (by simp only [cellsL, agg, List.toList_toArray, Row.cells, Cm.L, Rq.L, Tp.L, Bat.L, Vt.L, Act14.L] <;> rfl) (by rfl) (by first | rfl | assumption | exact Rs.oneC (by first | assumption | exact SH.rsR H (by (repeat first | exact At.here | apply At.there); done) | exact SH.rsO H (by (repeat first | exact At.here | apply At.there); done) | exact (Rs.nil : Rs Non _ _ _)) | (simp only [List.all_cons, List.all_nil, Bool.and_true, Bool.and_eq_true, Row.cells, Cm.L, Rq.L, Tp.L, Bat.L, Vt.L, Act14.L]; (repeat' constructor) <;> first | rfl | assumption | exact Rs.oneC (by first | assumption | exact SH.rsR H (by (repeat first | exact At.here | apply At.there); done) | exact SH.rsO H (by (repeat first | exact At.here | apply At.there); done) | exact (Rs.nil : Rs Non _ _ _)))) (by (repeat first | exact At.here | apply At.there); done) (by first | (simp; done) | decide | (show _ ≤ _; decide)) ?_
        clear H
        intro w9_5 H
        try dsimp only [replC, List.cons_append, List.nil_append, List.append_nil, agg, cellsL, Value.cells, List.toList_toArray, List.set_cons_zero, List.set_cons_succ, spliceL, List.take_succ_cons, List.take_zero, List.drop_succ_cons, List.drop_zero, List.length_cons, List.length_nil, Nat.reduceAdd, Row.cells, Cm.L, Rq.L, Tp.L, Bat.L, Vt.L, Act14.L] at H
        refine LW.nil ?_
        refine thenE_norm ?_
        refine cut (K := K14) [0, 3, 5, 6, 7, 8] (fun σ => ?_)
        simp only [setL, keepE, upd_get, ev, Nat.reduceEqDiff, ↓reduceIte]
        refine h14 _ _ ?_; clear h14; try clear K14
        refine CW.seq (fun K15 h15 => ?_)
        refine CW.region ?_
        refine r_fieldAddrO rfl Try.underlying86 rfl Try.sizeOf22 (by decide) (show _ = 3 from rfl) rfl ?_
        refine r_load rfl Try.isAgg22 rfl (by first | exact SH.cellB H (by (repeat first | exact At.here | apply At.there); done) (by rfl) | assumption) ?_
        refine r_call rfl Try.call16 (by simp only [List.map_cons, List.map_nil, List.map_toArray, List.toList_toArray, upd_get, ev, Nat.reduceEqDiff, ↓reduceIte] <;> rfl) (BatchN_c _ (hxs.up0 (SH.ext H)) hxl) ?_
        rintro _ w10_2 ⟨v10_2, g10_2, rfl, hm10_2, hs10_2, K⟩
        refine ⟨_, rfl, ?_⟩
        replace H := SH.call H K
        clear K
        try dsimp only [replC, List.cons_append, List.nil_append, List.append_nil] at H
        refine s_alloc (cs := [.bool false, .int .i64 0, .int .i64 0, .int .i64 0, .int .i64 0, .slice none 0 0]) H rfl Try.zeroValue27 rfl ?_
        clear H
        intro b10_3 w10_3 H
        try dsimp only [replC, List.cons_append, List.nil_append, List.append_nil, agg, cellsL, Value.cells, List.toList_toArray, List.set_cons_zero, List.set_cons_succ, spliceL, List.take_succ_cons, List.take_zero, List.drop_succ_cons, List.drop_zero, List.length_cons, List.length_nil, Nat.reduceAdd, Row.cells, Cm.L, Rq.L, Tp.L, Bat.L, Vt.L, Act14.L] at H
        refine s_storeA H Try.sizeOf27 rfl (by simp only [upd_get, ev, Nat.reduceEqDiff, ↓reduceIte] <;> rfl) (by simp only [cellsL, agg, List.toList_toArray, Row.cells, Cm.L, Rq.L, Tp.L, Bat.L, Vt.L, Act14.L] <;> rfl) (by rfl) (by first | rfl | assumption | exact Rs.oneC (by first | assumption | exact SH.rsR H (by (repeat first | exact At.here | apply At.there); done) | exact SH.rsO H (by (repeat first | exact At.here | apply At.there); done) | exact (Rs.nil : Rs Non _ _ _)) | (simp only [List.all_cons, List.all_nil, Bool.and_true, Bool.and_eq_true, Row.cells, Cm.L, Rq.L, Tp.L, Bat.L, Vt.L, Act14.L]; (repeat' constructor) <;> first | rfl | assumption | exact Rs.oneC (by first | assumption | exact SH.rsR H (by (repeat first | exact At.here | apply At.there); done) | exact SH.rsO H (by (repeat first | exact At.here | apply At.there); done) | exact (Rs.nil : Rs Non _ _ _)))) (by (repeat first | exact At.here | apply At.there); done) (by first | (simp; done) | decide | (show _ ≤ _; decide)) ?_
        clear H
        intro w10_4 H
        try dsimp only [replC, List.cons_append, List.nil_append, List.append_nil, agg, cellsL, Value.cells, List.toList_toArray, List.set_cons_zero, List.set_cons_succ, spliceL, List.take_succ_cons, List.take_zero, List.drop_succ_cons, List.drop_zero, List.length_cons, List.length_nil, Nat.reduceAdd, Row.cells, Cm.L, Rq.L, Tp.L, Bat.L, Vt.L, Act14.L] at H
        refine LW.nil ?_
        refine thenE_norm (h15 _ _ ?_); clear h15; try clear K15
        refine CW.seqJ [0, 3, 5, 6, 7, 8, 9] [] (fun vs w' => ∃ (y : Bat) (bs : List Rq) (FB : Nat → Prop), vs = [] ∧ smallQ bs ∧ SH Non Any w w' [.R (Old w) v acts, .B b0_0 27 [.bool q1, .int .i64 q2, .int .i64 q3, .int .i64 q4, .int .i64 q5, q6], .R (Old w) q6 rq, .P FA (AccA p s FA), .P FR (RAcA b3_2 s.ballot s.done raws FR), .I FI (VtsA FI raws s.l), .B b9_4 86 [.int .i64 a1, .int .i64 a2, .int .i64 a3, a4], .B b10_3 27 [.bool y.fill, .int .i64 y.view, .int .i64 y.tip.view, .int .i64 y.tip.slot, .int .i64 y.time, y.reqs], .R FB y.reqs bs]) ?_ ?_
        · refine CW.seq (fun K17 h17 => ?_)
          refine CW.region ?_
          refine r_fieldAddrO rfl Try.underlying86 rfl Try.sizeOf22 (by decide) (show _ = 3 from rfl) rfl ?_
          refine r_load rfl Try.isAgg22 rfl (by first | exact SH.cellB H (by (repeat first | exact At.here | apply At.there); done) (by rfl) | assumption) ?_
          first
            | refine r_lenV rfl Try.underlying22 (by simp only [upd_get, ev, Nat.reduceEqDiff, ↓reduceIte] <;> rfl) (hxs.up0 (SH.ext H)) ?_
            | refine r_len rfl Try.underlying22 rfl ?_
          refine r_eql rfl rfl rfl ?_
          refine LW.nil ?_
          refine thenE_norm ?_
          refine cut (K := K17) [0, 3, 5, 6, 7, 8, 9, 39] (fun σ => ?_)
          simp only [setL, keepE, upd_get, ev, Nat.reduceEqDiff, ↓reduceIte]
          refine h17 _ _ ?_; clear h17; try clear K17
          refine CW.cond rfl (fun hc4 => ?_) (fun hc4 => ?_)
          · try simp only [decide_eq_true_eq, decide_eq_false_iff_not, Bool.and_eq_true, Bool.or_eq_true, Bool.and_eq_false_iff, Bool.or_eq_false_iff, Bool.not_eq_true', Bool.not_eq_false', beq_iff_eq, bne_iff_ne, ne_eq, Decidable.not_not] at hc4
            refine CW.region ?_
            refine r_loadA rfl Try.isAgg27 Try.sizeOf27 rfl (by first | exact SH.cells H (by (repeat first | exact At.here | apply At.there); done)) (by rfl) ?_
            refine s_storeA H Try.sizeOf27 rfl (by simp only [upd_get, ev, Nat.reduceEqDiff, ↓reduceIte] <;> rfl) (by simp only [cellsL, agg, List.toList_toArray, Row.cells, Cm.L, Rq.L, Tp.L, Bat.L, Vt.L, Act14.L] <;> rfl) (by rfl) (by first | rfl | assumption | exact Rs.oneC (by first | assumption | exact SH.rsR H (by (repeat first | exact At.here | apply At.there); done) | exact SH.rsO H (by (repeat first | exact At.here | apply At.there); done) | exact (Rs.nil : Rs Non _ _ _)) | (simp only [List.all_cons, List.all_nil, Bool.and_true, Bool.and_eq_true, Row.cells, Cm.L, Rq.L, Tp.L, Bat.L, Vt.L, Act14.L]; (repeat' constructor) <;> first | rfl | assumption | exact Rs.oneC (by first | assumption | exact SH.rsR H (by (repeat first | exact At.here | apply At.there); done) | exact SH.rsO H (by (repeat first | exact At.here | apply At.there); done) | exact (Rs.nil : Rs Non _ _ _)))) (by (repeat first | exact At.here | apply At.there); done) (by first | (simp; done) | decide | (show _ ≤ _; decide)) ?_
            clear H
            intro w12_1 H
            try dsimp only [replC, List.cons_append, List.nil_append, List.append_nil, agg, cellsL, Value.cells, List.toList_toArray, List.set_cons_zero, List.set_cons_succ, spliceL, List.take_succ_cons, List.take_zero, List.drop_succ_cons, List.drop_zero, List.length_cons, List.length_nil, Nat.reduceAdd, Row.cells, Cm.L, Rq.L, Tp.L, Bat.L, Vt.L, Act14.L] at H
            refine LW.nil ?_
            refine thenE_norm ?_
            exact ⟨rfl, ⟨q1, q2, ⟨q3, q4⟩, q5, q6⟩, rq, _, rfl, hsq, SH.sel (SH.share H (i := 2) rfl (SH.rsR H (i := 2) rfl)) [0, 1, 2, 3, 4, 5, 6, 8, 9] (by decide) rfl⟩
          · try simp only [decide_eq_true_eq, decide_eq_false_iff_not, Bool.and_eq_true, Bool.or_eq_true, Bool.and_eq_false_iff, Bool.or_eq_false_iff, Bool.not_eq_true', Bool.not_eq_false', beq_iff_eq, bne_iff_ne, ne_eq, Decidable.not_not] at hc4
            refine CW.skip ?_
            refine thenE_norm ?_
            exact ⟨rfl, ⟨(batN xs).fill, (batN xs).view, (batN xs).tip, (batN xs).time, v10_2⟩, (batN xs).rs, _, rfl, hs10_2, SH.sel (SH.freeze H (i := 7) rfl) [0, 1, 2, 3, 4, 5, 6, 8, 7] (by decide) rfl⟩
        try clear H
        rintro vs wJ σ ⟨⟨y1, y2, ⟨y3, y4⟩, y5, y6⟩, bs, FB, rfl, hsb, H⟩
        simp only [setL, keepE, upd_get, ev, Nat.reduceEqDiff, ↓reduceIte]
        have hoy : oneC y6 = true := Rs.oneC (SH.rsR H (i := 8) rfl)
        refine CW.seqJ [0, 3, 5, 6, 7] [] (fun vs w' => ∃ (s' : AcS) (raws' : List Vt) (FA' FR' FI' : Nat → Prop), vs = [] ∧ SH Non Any w w' [.R (Old w) v acts, .B b0_0 27 [.bool q1, .int .i64 q2, .int .i64 q3, .int .i64 q4, .int .i64 q5, q6], .R (Old w) q6 rq, .P FA' (AccA p s' FA'), .P FR' (RAcA b3_2 s'.ballot s'.done raws' FR'), .I FI' (VtsA FI' raws' s'.l)]) ?_ ?_
        · refine CW.seq (fun K19 h19 => ?_)
          refine CW.region ?_
          refine r_fieldAddrO rfl Try.underlying86 rfl Try.sizeOf3 (by decide) (show _ = 0 from rfl) rfl ?_
          refine r_load rfl Try.isAgg3 rfl (by first | exact SH.cellB H (by (repeat first | exact At.here | apply At.there); done) (by rfl) | assumption) ?_
          refine LW.nil ?_
          refine thenE_norm (h19 _ _ ?_); clear h19; try clear K19
          refine CW.block ?_
          refine CW.seq (fun K20 h20 => ?_)
          refine CW.region ?_
          refine r_eql rfl rfl rfl ?_
          refine r_assign rfl ?_
          refine LW.nil ?_
          refine thenE_norm (h20 _ _ ?_); clear h20; try clear K20
          refine CW.cond rfl (fun hc5 => ?_) (fun hc5 => ?_)
          · try simp only [decide_eq_true_eq, decide_eq_false_iff_not, Bool.and_eq_true, Bool.or_eq_true, Bool.and_eq_false_iff, Bool.or_eq_false_iff, Bool.not_eq_true', Bool.not_eq_false', beq_iff_eq, bne_iff_ne, ne_eq, Decidable.not_not] at hc5
            refine CW.seq (fun K21 h21 => ?_)
            refine CW.drawP [6] [] H (by dsimp only [pickC, nthC] <;> rfl) (by repeat first | exact List.Sublist.refl _ | exact List.nil_sublist _ | apply List.Sublist.cons_cons | apply List.Sublist.cons) (by kernel_rfl) rfl ?_
            clear H
            intro w17d H
            refine DL.take (i := 0) [] rfl (by kernel_rfl) (by kernel_rfl) (by kernel_rfl) (by kernel_rfl) rfl rfl (fun u H => x_move ) (SH.sub H (by repeat first | exact List.Sublist.refl _ | exact List.nil_sublist _ | apply List.Sublist.cons_cons | apply List.Sublist.cons)) ?_
            refine DL.take (i := 1) [] rfl (by kernel_rfl) (by kernel_rfl) (by kernel_rfl) (by kernel_rfl) rfl rfl (fun u H => x_fieldAddrO Try.underlying86 rfl Try.sizeOf3 (by decide) (show _ = 1 from rfl) rfl) (SH.sub H (by repeat first | exact List.Sublist.refl _ | exact List.nil_sublist _ | apply List.Sublist.cons_cons | apply List.Sublist.cons)) ?_
            refine DL.take (i := 2) [] rfl (by kernel_rfl) (by kernel_rfl) (by kernel_rfl) (by kernel_rfl) rfl rfl (fun u H => x_load Try.isAgg3 rfl (by first | exact SH.cellB H (by (repeat first | exact At.here | apply At.there); done) (by rfl) | assumption)) (SH.sub H (by repeat first | exact List.Sublist.refl _ | exact List.nil_sublist _ | apply List.Sublist.cons_cons | apply List.Sublist.cons)) ?_
            refine DL.take (i := 4) [] rfl (by kernel_rfl) (by kernel_rfl) (by kernel_rfl) (by kernel_rfl) rfl rfl (fun u H => x_move ) (SH.sub H (by repeat first | exact List.Sublist.refl _ | exact List.nil_sublist _ | apply List.Sublist.cons_cons | apply List.Sublist.cons)) ?_
            refine DL.take (i := 5) [] rfl (by kernel_rfl) (by kernel_rfl) (by kernel_rfl) (by kernel_rfl) rfl rfl (fun u H => x_fieldAddrO Try.underlying86 rfl Try.sizeOf3 (by decide) (show _ = 1 from rfl) rfl) (SH.sub H (by repeat first | exact List.Sublist.refl _ | exact List.nil_sublist _ | apply List.Sublist.cons_cons | apply List.Sublist.cons)) ?_
            refine DL.take (i := 6) [] rfl (by kernel_rfl) (by kernel_rfl) (by kernel_rfl) (by kernel_rfl) rfl rfl (fun u H => x_load Try.isAgg3 rfl (by first | exact SH.cellB H (by (repeat first | exact At.here | apply At.there); done) (by rfl) | assumption)) (SH.sub H (by repeat first | exact List.Sublist.refl _ | exact List.nil_sublist _ | apply List.Sublist.cons_cons | apply List.Sublist.cons)) ?_
            refine DL.one (i := 3) (by kernel_rfl) rfl rfl ?_
            refine r_call rfl Try.call28 (by simp only [List.map_cons, List.map_nil, List.map_toArray, List.toList_toArray, upd_get, ev, Nat.reduceEqDiff, ↓reduceIte] <;> rfl) (Promise_c a2 _ (SH.prop H (i := 3) rfl)) ?_
            rintro _ w17_3 ⟨FN17_3, rfl, K⟩
            refine ⟨_, rfl, ?_⟩
            replace H := SH.updP H (i := 3) rfl K
            clear K
            try dsimp only [replC, List.cons_append, List.nil_append, List.append_nil] at H
            refine LW.nil (thenE_norm ⟨fun _ => (SH.sub H (by repeat first | exact List.Sublist.refl _ | exact List.nil_sublist _ | apply List.Sublist.cons_cons | apply List.Sublist.cons)), ?_⟩)
            refine DL.one (i := 7) (by kernel_rfl) rfl rfl ?_
            refine r_call rfl Try.call49 (by simp only [List.map_cons, List.map_nil, List.map_toArray, List.toList_toArray, upd_get, ev, Nat.reduceEqDiff, ↓reduceIte] <;> rfl) (RPromise_c a2 _ (SH.prop H (i := 4) rfl)) ?_
            rintro _ w17_7 ⟨FN17_7, rfl, K⟩
            refine ⟨_, rfl, ?_⟩
            replace H := SH.updP H (i := 4) rfl K
            clear K
            try dsimp only [replC, List.cons_append, List.nil_append, List.append_nil] at H
            refine LW.nil (thenE_norm ⟨fun _ => (SH.sub H (by repeat first | exact List.Sublist.refl _ | exact List.nil_sublist _ | apply List.Sublist.cons_cons | apply List.Sublist.cons)), ?_⟩)
            refine DL.take (i := 8) [] rfl (by kernel_rfl) (by kernel_rfl) (by kernel_rfl) (by kernel_rfl) rfl rfl (fun u H => x_neq rfl rfl) (SH.sub H (by repeat first | exact List.Sublist.refl _ | exact List.nil_sublist _ | apply List.Sublist.cons_cons | apply List.Sublist.cons)) ?_
            refine DL.done (by kernel_rfl) ?_
            refine thenE_norm ?_
            refine cut (K := K21) [0, 3, 5, 6, 7, 61] (fun σ => ?_)
            simp only [setL, keepE, upd_get, ev, Nat.reduceEqDiff, ↓reduceIte]
            refine h21 _ _ ?_; clear h21; try clear K21
            refine CW.condF rfl (by simp) ?_
            refine CW.skip ?_
            refine blockE_norm ?_
            refine thenE_norm ?_
            exact ⟨rfl, (promM s a2).1, raws, _, _, _, rfl, by rw [prom_l]; exact SH.sel H [0, 1, 2, 3, 4, 5] (by decide) rfl⟩
          · try simp only [decide_eq_true_eq, decide_eq_false_iff_not, Bool.and_eq_true, Bool.or_eq_true, Bool.and_eq_false_iff, Bool.or_eq_false_iff, Bool.not_eq_true', Bool.not_eq_false', beq_iff_eq, bne_iff_ne, ne_eq, Decidable.not_not] at hc5
            refine CW.seq (fun K22 h22 => ?_)
            refine CW.region ?_
            refine r_eql rfl rfl rfl ?_
            refine r_assign rfl ?_
            refine LW.nil ?_
            refine thenE_norm (h22 _ _ ?_); clear h22; try clear K22
            refine CW.cond rfl (fun hc7 => ?_) (fun hc7 => ?_)
            · try simp only [decide_eq_true_eq, decide_eq_false_iff_not, Bool.and_eq_true, Bool.or_eq_true, Bool.and_eq_false_iff, Bool.or_eq_false_iff, Bool.not_eq_true', Bool.not_eq_false', beq_iff_eq, bne_iff_ne, ne_eq, Decidable.not_not] at hc7
              refine CW.seq (fun K23 h23 => ?_)
              refine CW.drawP [6, 7] [] H (by dsimp only [pickC, nthC] <;> rfl) (by repeat first | exact List.Sublist.refl _ | exact List.nil_sublist _ | apply List.Sublist.cons_cons | apply List.Sublist.cons) (by kernel_rfl) rfl ?_
              clear H
              intro w20d H
              refine DL.take (i := 0) [] rfl (by kernel_rfl) (by kernel_rfl) (by kernel_rfl) (by kernel_rfl) rfl rfl (fun u H => x_move ) (SH.sub H (by repeat first | exact List.Sublist.refl _ | exact List.nil_sublist _ | apply List.Sublist.cons_cons | apply List.Sublist.cons)) ?_
              refine DL.take (i := 1) [] rfl (by kernel_rfl) (by kernel_rfl) (by kernel_rfl) (by kernel_rfl) rfl rfl (fun u H => x_fieldAddrO Try.underlying86 rfl Try.sizeOf3 (by decide) (show _ = 1 from rfl) rfl) (SH.sub H (by repeat first | exact List.Sublist.refl _ | exact List.nil_sublist _ | apply List.Sublist.cons_cons | apply List.Sublist.cons)) ?_
              refine DL.take (i := 2) [] rfl (by kernel_rfl) (by kernel_rfl) (by kernel_rfl) (by kernel_rfl) rfl rfl (fun u H => x_load Try.isAgg3 rfl (by first | exact SH.cellB H (by (repeat first | exact At.here | apply At.there); done) (by rfl) | assumption)) (SH.sub H (by repeat first | exact List.Sublist.refl _ | exact List.nil_sublist _ | apply List.Sublist.cons_cons | apply List.Sublist.cons)) ?_
              refine DL.take (i := 3) [] rfl (by kernel_rfl) (by kernel_rfl) (by kernel_rfl) (by kernel_rfl) rfl rfl (fun u H => x_fieldAddrO Try.underlying86 rfl Try.sizeOf3 (by decide) (show _ = 2 from rfl) rfl) (SH.sub H (by repeat first | exact List.Sublist.refl _ | exact List.nil_sublist _ | apply List.Sublist.cons_cons | apply List.Sublist.cons)) ?_
              refine DL.take (i := 4) [] rfl (by kernel_rfl) (by kernel_rfl) (by kernel_rfl) (by kernel_rfl) rfl rfl (fun u H => x_load Try.isAgg3 rfl (by first | exact SH.cellB H (by (repeat first | exact At.here | apply At.there); done) (by rfl) | assumption)) (SH.sub H (by repeat first | exact List.Sublist.refl _ | exact List.nil_sublist _ | apply List.Sublist.cons_cons | apply List.Sublist.cons)) ?_
              refine DL.take (i := 5) [] rfl (by kernel_rfl) (by kernel_rfl) (by kernel_rfl) (by kernel_rfl) rfl rfl (fun u H => x_loadA Try.isAgg27 Try.sizeOf27 rfl (by first | exact SH.cells H (by (repeat first | exact At.here | apply At.there); done)) (by rfl)) (SH.sub H (by repeat first | exact List.Sublist.refl _ | exact List.nil_sublist _ | apply List.Sublist.cons_cons | apply List.Sublist.cons)) ?_
              refine DL.take (i := 7) [] rfl (by kernel_rfl) (by kernel_rfl) (by kernel_rfl) (by kernel_rfl) rfl rfl (fun u H => x_move ) (SH.sub H (by repeat first | exact List.Sublist.refl _ | exact List.nil_sublist _ | apply List.Sublist.cons_cons | apply List.Sublist.cons)) ?_
              refine DL.take (i := 8) [] rfl (by kernel_rfl) (by kernel_rfl) (by kernel_rfl) (by kernel_rfl) rfl rfl (fun u H => x_fieldAddrO Try.underlying86 rfl Try.sizeOf3 (by decide) (show _ = 1 from rfl) rfl) (SH.sub H (by repeat first | exact List.Sublist.refl _ | exact List.nil_sublist _ | apply List.Sublist.cons_cons | apply List.Sublist.cons)) ?_
              refine DL.take (i := 9) [] rfl (by kernel_rfl) (by kernel_rfl) (by kernel_rfl) (by kernel_rfl) rfl rfl (fun u H => x_load Try.isAgg3 rfl (by first | exact SH.cellB H (by (repeat first | exact At.here | apply At.there); done) (by rfl) | assumption)) (SH.sub H (by repeat first | exact List.Sublist.refl _ | exact List.nil_sublist _ | apply List.Sublist.cons_cons | apply List.Sublist.cons)) ?_
              refine DL.take (i := 10) [] rfl (by kernel_rfl) (by kernel_rfl) (by kernel_rfl) (by kernel_rfl) rfl rfl (fun u H => x_fieldAddrO Try.underlying86 rfl Try.sizeOf3 (by decide) (show _ = 2 from rfl) rfl) (SH.sub H (by repeat first | exact List.Sublist.refl _ | exact List.nil_sublist _ | apply List.Sublist.cons_cons | apply List.Sublist.cons)) ?_
              refine DL.take (i := 11) [] rfl (by kernel_rfl) (by kernel_rfl) (by kernel_rfl) (by kernel_rfl) rfl rfl (fun u H => x_load Try.isAgg3 rfl (by first | exact SH.cellB H (by (repeat first | exact At.here | apply At.there); done) (by rfl) | assumption)) (SH.sub H (by repeat first | exact List.Sublist.refl _ | exact List.nil_sublist _ | apply List.Sublist.cons_cons | apply List.Sublist.cons)) ?_
              refine DL.take (i := 12) [] rfl (by kernel_rfl) (by kernel_rfl) (by kernel_rfl) (by kernel_rfl) rfl rfl (fun u H => x_loadA Try.isAgg27 Try.sizeOf27 rfl (by first | exact SH.cells H (by (repeat first | exact At.here | apply At.there); done)) (by rfl)) (SH.sub H (by repeat first | exact List.Sublist.refl _ | exact List.nil_sublist _ | apply List.Sublist.cons_cons | apply List.Sublist.cons)) ?_
              refine DL.one (i := 6) (by kernel_rfl) rfl rfl ?_
              refine r_call rfl Try.call29 (by simp only [List.map_cons, List.map_nil, List.map_toArray, List.toList_toArray, upd_get, ev, Nat.reduceEqDiff, ↓reduceIte] <;> rfl) (Accept_c a2 a3 ⟨_, _, ⟨_, _⟩, _, _⟩ _ (SH.prop H (i := 3) rfl) (SH.rsR H (i := 8) rfl) (SH.apartPR H (i := 3) (j := 8) rfl rfl (by decide)) hsb) ?_
              rintro _ w20_6 ⟨FN20_6, rfl, K⟩
              refine ⟨_, rfl, ?_⟩
              replace H := SH.updP H (i := 3) rfl K
              clear K
              try dsimp only [replC, List.cons_append, List.nil_append, List.append_nil] at H
              refine LW.nil (thenE_norm ⟨fun _ => (SH.sub H (by repeat first | exact List.Sublist.refl _ | exact List.nil_sublist _ | apply List.Sublist.cons_cons | apply List.Sublist.cons)), ?_⟩)
              refine DL.one (i := 13) (by kernel_rfl) rfl rfl ?_
              refine r_call rfl Try.call50 (by simp only [List.map_cons, List.map_nil, List.map_toArray, List.toList_toArray, upd_get, ev, Nat.reduceEqDiff, ↓reduceIte] <;> rfl) (RAccept_c (s := s) a2 a3 ⟨_, _, ⟨_, _⟩, _, _⟩ _ (SH.prop H (i := 4) rfl) (SH.rsR H (i := 8) rfl) (SH.apartPR H (i := 4) (j := 8) rfl rfl (by decide)) hup (by omega) hok.d0 hok.d1) ?_
              rintro _ w20_13 ⟨FN20_13, rfl, K⟩
              refine ⟨_, rfl, ?_⟩
              replace H := SH.updP H (i := 4) rfl K
              clear K
              try dsimp only [replC, List.cons_append, List.nil_append, List.append_nil] at H
              refine LW.nil (thenE_norm ⟨fun _ => (SH.sub H (by repeat first | exact List.Sublist.refl _ | exact List.nil_sublist _ | apply List.Sublist.cons_cons | apply List.Sublist.cons)), ?_⟩)
              refine DL.take (i := 14) [] rfl (by kernel_rfl) (by kernel_rfl) (by kernel_rfl) (by kernel_rfl) rfl rfl (fun u H => x_neq rfl rfl) (SH.sub H (by repeat first | exact List.Sublist.refl _ | exact List.nil_sublist _ | apply List.Sublist.cons_cons | apply List.Sublist.cons)) ?_
              refine DL.done (by kernel_rfl) ?_
              refine thenE_norm ?_
              refine cut (K := K23) [0, 3, 5, 6, 7, 78] (fun σ => ?_)
              simp only [setL, keepE, upd_get, ev, Nat.reduceEqDiff, ↓reduceIte]
              refine h23 _ _ ?_; clear h23; try clear K23
              refine CW.condF rfl (by simp) ?_
              refine CW.skip ?_
              refine blockE_norm ?_
              refine thenE_norm ?_
              have H2 := SH.blend (A' := VtsA _ (accR s raws (vmB a3 a2 ⟨y1, y2, ⟨y3, y4⟩, y5, y6⟩ bs) ⟨a3, a2, ⟨y1, y2, ⟨y3, y4⟩, y5, y6⟩⟩) (accM s (vmB a3 a2 ⟨y1, y2, ⟨y3, y4⟩, y5, y6⟩ bs)).1.l) (SH.sel H [5, 8, 0, 1, 2, 3, 4] (by decide) rfl) (fun h => h) vts_st (fun h k => accR_r (VtsA.mono h fun b hb => .inl hb) ⟨rfl, rfl, rfl, rfl, rfl, rfl, Rs.mono k fun b _ hb => .inr hb⟩)
              exact ⟨rfl, (accM s (vmB a3 a2 ⟨y1, y2, ⟨y3, y4⟩, y5, y6⟩ bs)).1, _, _, _, _, rfl, SH.sel H2 [1, 2, 3, 4, 5, 0] (by decide) rfl⟩
            · try simp only [decide_eq_true_eq, decide_eq_false_iff_not, Bool.and_eq_true, Bool.or_eq_true, Bool.and_eq_false_iff, Bool.or_eq_false_iff, Bool.not_eq_true', Bool.not_eq_false', beq_iff_eq, bne_iff_ne, ne_eq, Decidable.not_not] at hc7
              refine CW.seq (fun K24 h24 => ?_)
              refine CW.region ?_
              refine r_move rfl ?_
              refine r_fieldAddrO rfl Try.underlying86 rfl Try.sizeOf3 (by decide) (show _ = 2 from rfl) rfl ?_
              refine r_load rfl Try.isAgg3 rfl (by first | exact SH.cellB H (by (repeat first | exact At.here | apply At.there); done) (by rfl) | assumption) ?_
              refine r_call rfl Try.call51 (by simp only [List.map_cons, List.map_nil, List.map_toArray, List.toList_toArray, upd_get, ev, Nat.reduceEqDiff, ↓reduceIte] <;> rfl) (TrimA_c a3 _ (SH.prop H (i := 3) rfl)) ?_
              rintro _ w14_3 ⟨FN14_3, rfl, K⟩
              refine ⟨_, rfl, ?_⟩
              replace H := SH.updP H (i := 3) rfl K
              clear K
              try dsimp only [replC, List.cons_append, List.nil_append, List.append_nil] at H
              refine LW.nil ?_
              refine thenE_norm ?_
              refine cut (K := K24) [0, 3, 5, 6, 7, 8] (fun σ => ?_)
              simp only [setL, keepE, upd_get, ev, Nat.reduceEqDiff, ↓reduceIte]
              refine h24 _ _ ?_; clear h24; try clear K24
              refine CW.region ?_
              refine r_move rfl ?_
              refine r_fieldAddrO rfl Try.underlying86 rfl Try.sizeOf3 (by decide) (show _ = 2 from rfl) rfl ?_
              refine r_load rfl Try.isAgg3 rfl (by first | exact SH.cellB H (by (repeat first | exact At.here | apply At.there); done) (by rfl) | assumption) ?_
              refine r_call rfl Try.call52 (by simp only [List.map_cons, List.map_nil, List.map_toArray, List.toList_toArray, upd_get, ev, Nat.reduceEqDiff, ↓reduceIte] <;> rfl) (RTrim_c (s := s) a3 _ (SH.prop H (i := 4) rfl) (by omega)) ?_
              rintro _ w15_3 ⟨FN15_3, rfl, K⟩
              refine ⟨_, rfl, ?_⟩
              replace H := SH.updP H (i := 4) rfl K
              clear K
              try dsimp only [replC, List.cons_append, List.nil_append, List.append_nil] at H
              refine LW.nil ?_
              refine blockE_norm ?_
              refine thenE_norm ?_
              have H2 := SH.cast (d := .I FI (VtsA FI (trimR s raws a3) (trimM s a3).l)) H (i := 5) rfl (fun h => h) (fun b hb => hb) vts_st (fun h => trimR_r a3 h)
              exact ⟨rfl, trimM s a3, _, _, _, _, rfl, SH.sel H2 [0, 1, 2, 3, 4, 5] (by decide) rfl⟩
        try clear H
        rintro vs wJ σ ⟨s', raws', FA', FR', FI', rfl, H⟩
        simp only [setL, keepE, upd_get, ev, Nat.reduceEqDiff, ↓reduceIte]
        refine CW.seq (fun K25 h25 => ?_)
        obtain ⟨v2, g2, hA2⟩ := SH.prop H (i := 4) rfl
        replace H := SH.unpack H (i := 4) rfl hA2
        clear hA2
        simp only [replC, List.cons_append, List.nil_append] at H
        refine CW.drawP [4] [] H (by dsimp only [pickC, nthC] <;> rfl) (by repeat first | exact List.Sublist.refl _ | exact List.nil_sublist _ | apply List.Sublist.cons_cons | apply List.Sublist.cons) (by kernel_rfl) rfl ?_
        clear H
        intro w22d H
        refine DL.take (i := 0) [] rfl (by kernel_rfl) (by kernel_rfl) (by kernel_rfl) (by kernel_rfl) rfl rfl (fun u H => x_move ) (SH.sub H (by repeat first | exact List.Sublist.refl _ | exact List.nil_sublist _ | apply List.Sublist.cons_cons | apply List.Sublist.cons)) ?_
        refine DL.take (i := 2) [] rfl (by kernel_rfl) (by kernel_rfl) (by kernel_rfl) (by kernel_rfl) rfl rfl (fun u H => x_move ) (SH.sub H (by repeat first | exact List.Sublist.refl _ | exact List.nil_sublist _ | apply List.Sublist.cons_cons | apply List.Sublist.cons)) ?_
        refine DL.take (i := 3) [] rfl (by kernel_rfl) (by kernel_rfl) (by kernel_rfl) (by kernel_rfl) rfl rfl (fun u H => x_nilCheck rfl) (SH.sub H (by repeat first | exact List.Sublist.refl _ | exact List.nil_sublist _ | apply List.Sublist.cons_cons | apply List.Sublist.cons)) ?_
        refine DL.take (i := 4) [] rfl (by kernel_rfl) (by kernel_rfl) (by kernel_rfl) (by kernel_rfl) rfl rfl (fun u H => x_fieldAddrO Try.underlying84 rfl Try.sizeOf3 (by decide) (show _ = 0 from rfl) rfl) (SH.sub H (by repeat first | exact List.Sublist.refl _ | exact List.nil_sublist _ | apply List.Sublist.cons_cons | apply List.Sublist.cons)) ?_
        refine DL.take (i := 5) [] rfl (by kernel_rfl) (by kernel_rfl) (by kernel_rfl) (by kernel_rfl) rfl rfl (fun u H => x_load Try.isAgg3 rfl (by first | exact SH.cellB H (by (repeat first | exact At.here | apply At.there); done) (by rfl) | assumption)) (SH.sub H (by repeat first | exact List.Sublist.refl _ | exact List.nil_sublist _ | apply List.Sublist.cons_cons | apply List.Sublist.cons)) ?_
        refine DL.one (i := 1) (by kernel_rfl) rfl rfl ?_
        refine r_call rfl Try.call30 (by simp only [List.map_cons, List.map_nil, List.map_toArray, List.toList_toArray, upd_get, ev, Nat.reduceEqDiff, ↓reduceIte] <;> rfl) (BallotA_c _ (SH.prop H (i := 3) rfl)) ?_
        rintro _ _ ⟨rfl, rfl⟩
        refine ⟨_, rfl, ?_⟩
        refine LW.nil (thenE_norm ⟨fun _ => (SH.sub H (by repeat first | exact List.Sublist.refl _ | exact List.nil_sublist _ | apply List.Sublist.cons_cons | apply List.Sublist.cons)), ?_⟩)
        refine DL.take (i := 6) [] rfl (by kernel_rfl) (by kernel_rfl) (by kernel_rfl) (by kernel_rfl) rfl rfl (fun u H => x_neq rfl rfl) (SH.sub H (by repeat first | exact List.Sublist.refl _ | exact List.nil_sublist _ | apply List.Sublist.cons_cons | apply List.Sublist.cons)) ?_
        refine DL.take (i := 7) [] rfl (by kernel_rfl) (by kernel_rfl) (by kernel_rfl) (by kernel_rfl) rfl rfl (fun u H => x_move ) (SH.sub H (by repeat first | exact List.Sublist.refl _ | exact List.nil_sublist _ | apply List.Sublist.cons_cons | apply List.Sublist.cons)) ?_
        refine DL.known (t := 86) (c := false) rfl (by simp) (fun hg22_7 => ?_)
        refine DL.take (i := 8) [] rfl (by kernel_rfl) (by kernel_rfl) (by kernel_rfl) (by kernel_rfl) rfl (wantE rfl rfl hg22_7) (fun u H => x_move ) (SH.sub H (by repeat first | exact List.Sublist.refl _ | exact List.nil_sublist _ | apply List.Sublist.cons_cons | apply List.Sublist.cons)) ?_
        refine DL.take (i := 10) [] rfl (by kernel_rfl) (by kernel_rfl) (by kernel_rfl) (by kernel_rfl) rfl (wantE rfl rfl hg22_7) (fun u H => x_move ) (SH.sub H (by repeat first | exact List.Sublist.refl _ | exact List.nil_sublist _ | apply List.Sublist.cons_cons | apply List.Sublist.cons)) ?_
        refine DL.take (i := 11) [] rfl (by kernel_rfl) (by kernel_rfl) (by kernel_rfl) (by kernel_rfl) rfl (wantE rfl rfl hg22_7) (fun u H => x_nilCheck rfl) (SH.sub H (by repeat first | exact List.Sublist.refl _ | exact List.nil_sublist _ | apply List.Sublist.cons_cons | apply List.Sublist.cons)) ?_
        refine DL.take (i := 12) [] rfl (by kernel_rfl) (by kernel_rfl) (by kernel_rfl) (by kernel_rfl) rfl (wantE rfl rfl hg22_7) (fun u H => x_fieldAddrO Try.underlying84 rfl Try.sizeOf3 (by decide) (show _ = 1 from rfl) rfl) (SH.sub H (by repeat first | exact List.Sublist.refl _ | exact List.nil_sublist _ | apply List.Sublist.cons_cons | apply List.Sublist.cons)) ?_
        refine DL.take (i := 13) [] rfl (by kernel_rfl) (by kernel_rfl) (by kernel_rfl) (by kernel_rfl) rfl (wantE rfl rfl hg22_7) (fun u H => x_load Try.isAgg3 rfl (by first | exact SH.cellB H (by (repeat first | exact At.here | apply At.there); done) (by rfl) | assumption)) (SH.sub H (by repeat first | exact List.Sublist.refl _ | exact List.nil_sublist _ | apply List.Sublist.cons_cons | apply List.Sublist.cons)) ?_
        refine DL.one (i := 9) (by kernel_rfl) rfl (wantE rfl rfl hg22_7) ?_
        refine r_call rfl Try.call53 (by simp only [List.map_cons, List.map_nil, List.map_toArray, List.toList_toArray, upd_get, ev, Nat.reduceEqDiff, ↓reduceIte] <;> rfl) (DoneA_c _ (SH.prop H (i := 3) rfl)) ?_
        rintro _ _ ⟨rfl, rfl⟩
        refine ⟨_, rfl, ?_⟩
        refine LW.nil (thenE_norm ⟨fun _ => (SH.sub H (by repeat first | exact List.Sublist.refl _ | exact List.nil_sublist _ | apply List.Sublist.cons_cons | apply List.Sublist.cons)), ?_⟩)
        refine DL.take (i := 14) [] rfl (by kernel_rfl) (by kernel_rfl) (by kernel_rfl) (by kernel_rfl) rfl (wantE rfl rfl hg22_7) (fun u H => x_neq rfl rfl) (SH.sub H (by repeat first | exact List.Sublist.refl _ | exact List.nil_sublist _ | apply List.Sublist.cons_cons | apply List.Sublist.cons)) ?_
        refine DL.take (i := 15) [] rfl (by kernel_rfl) (by kernel_rfl) (by kernel_rfl) (by kernel_rfl) rfl rfl (fun u H => x_pickF rfl hg22_7) (SH.sub H (by repeat first | exact List.Sublist.refl _ | exact List.nil_sublist _ | apply List.Sublist.cons_cons | apply List.Sublist.cons)) ?_
        refine DL.take (i := 16) [] rfl (by kernel_rfl) (by kernel_rfl) (by kernel_rfl) (by kernel_rfl) rfl rfl (fun u H => x_move ) (SH.sub H (by repeat first | exact List.Sublist.refl _ | exact List.nil_sublist _ | apply List.Sublist.cons_cons | apply List.Sublist.cons)) ?_
        refine DL.known (t := 95) (c := false) rfl (by simp) (fun hg22_16 => ?_)
        refine DL.take (i := 17) [] rfl (by kernel_rfl) (by kernel_rfl) (by kernel_rfl) (by kernel_rfl) rfl (wantE rfl rfl hg22_16) (fun u H => x_move ) (SH.sub H (by repeat first | exact List.Sublist.refl _ | exact List.nil_sublist _ | apply List.Sublist.cons_cons | apply List.Sublist.cons)) ?_
        refine DL.take (i := 19) [] rfl (by kernel_rfl) (by kernel_rfl) (by kernel_rfl) (by kernel_rfl) rfl (wantE rfl rfl hg22_16) (fun u H => x_move ) (SH.sub H (by repeat first | exact List.Sublist.refl _ | exact List.nil_sublist _ | apply List.Sublist.cons_cons | apply List.Sublist.cons)) ?_
        refine DL.take (i := 20) [] rfl (by kernel_rfl) (by kernel_rfl) (by kernel_rfl) (by kernel_rfl) rfl (wantE rfl rfl hg22_16) (fun u H => x_nilCheck rfl) (SH.sub H (by repeat first | exact List.Sublist.refl _ | exact List.nil_sublist _ | apply List.Sublist.cons_cons | apply List.Sublist.cons)) ?_
        refine DL.take (i := 21) [] rfl (by kernel_rfl) (by kernel_rfl) (by kernel_rfl) (by kernel_rfl) rfl (wantE rfl rfl hg22_16) (fun u H => x_fieldAddrO Try.underlying84 rfl Try.sizeOf58 (by decide) (show _ = 2 from rfl) rfl) (SH.sub H (by repeat first | exact List.Sublist.refl _ | exact List.nil_sublist _ | apply List.Sublist.cons_cons | apply List.Sublist.cons)) ?_
        refine DL.take (i := 22) [] rfl (by kernel_rfl) (by kernel_rfl) (by kernel_rfl) (by kernel_rfl) rfl (wantE rfl rfl hg22_16) (fun u H => x_load Try.isAgg58 rfl (by first | exact SH.cellB H (by (repeat first | exact At.here | apply At.there); done) (by rfl) | assumption)) (SH.sub H (by repeat first | exact List.Sublist.refl _ | exact List.nil_sublist _ | apply List.Sublist.cons_cons | apply List.Sublist.cons)) ?_
        refine DL.one (i := 18) (by kernel_rfl) rfl (wantE rfl rfl hg22_16) ?_
        refine r_call rfl Try.call31 (by simp only [List.map_cons, List.map_nil, List.map_toArray, List.toList_toArray, upd_get, ev, Nat.reduceEqDiff, ↓reduceIte] <;> rfl) (Votes_c _ (SH.prop H (i := 3) rfl)) ?_
        rintro _ w22_18 ⟨v22_18, raws22_18, g22_18, F22_18, rfl, K⟩
        refine ⟨_, rfl, ?_⟩
        replace H := SH.call H K
        clear K
        try dsimp only [replC, List.cons_append, List.nil_append, List.append_nil] at H
        refine LW.nil (thenE_norm ⟨fun _ => (SH.sub H (by repeat first | exact List.Sublist.refl _ | exact List.nil_sublist _ | apply List.Sublist.cons_cons | apply List.Sublist.cons)), ?_⟩)
        refine DL.one (i := 23) (by kernel_rfl) rfl (wantE rfl rfl hg22_16) ?_
        refine r_call rfl Try.call54 (by simp only [List.map_cons, List.map_nil, List.map_toArray, List.toList_toArray, upd_get, ev, Nat.reduceEqDiff, ↓reduceIte] <;> rfl) (SameVotes_c _ (SH.rsO H (i := 7) rfl) (SH.rsO H (i := 5) rfl) (SH.prop H (i := 8) rfl) (SH.propI H (i := 6) rfl)) ?_
        rintro _ w22_23 ⟨rfl, X⟩
        refine ⟨_, rfl, ?_⟩
        replace H := SH.same H X
        clear X
        refine LW.nil (thenE_norm ⟨fun _ => (SH.sub H (by repeat first | exact List.Sublist.refl _ | exact List.nil_sublist _ | apply List.Sublist.cons_cons | apply List.Sublist.cons)), ?_⟩)
        refine DL.take (i := 24) [] rfl (by kernel_rfl) (by kernel_rfl) (by kernel_rfl) (by kernel_rfl) rfl (wantE rfl rfl hg22_16) (fun u H => x_not rfl) (SH.sub H (by repeat first | exact List.Sublist.refl _ | exact List.nil_sublist _ | apply List.Sublist.cons_cons | apply List.Sublist.cons)) ?_
        refine DL.take (i := 25) [] rfl (by kernel_rfl) (by kernel_rfl) (by kernel_rfl) (by kernel_rfl) rfl rfl (fun u H => x_pickF rfl hg22_16) (SH.sub H (by repeat first | exact List.Sublist.refl _ | exact List.nil_sublist _ | apply List.Sublist.cons_cons | apply List.Sublist.cons)) ?_
        refine DL.done (by kernel_rfl) ?_
        refine thenE_norm ?_
        refine cut (K := K25) [0, 3, 5, 6, 7, 104] (fun σ => ?_)
        simp only [setL, keepE, upd_get, ev, Nat.reduceEqDiff, ↓reduceIte]
        refine h25 _ _ ?_; clear h25; try clear K25
        refine CW.condF rfl (by simp) ?_
        refine CW.skip ?_
        refine blockE_norm ?_
        refine thenE_norm (h13 _ _ ?_); clear h13; try clear K13
        refine CW.region ?_
        refine r_move rfl ?_
        refine r_add rfl rfl rfl (wr_i64 (by omega) (by omega)) ?_
        refine r_assign rfl ?_
        refine LW.nil ?_
        refine thenE_norm ⟨rfl, ?_⟩
        obtain ⟨FR2, H2⟩ := RAcA.mkL (SH.sel H [4, 5, 0, 1, 2, 3, 6] (by decide) rfl)
        exact ⟨acts.length - (i + 1), by omega, i + 1, s', raws', _, _, _, rfl, by omega, rfl, SH.sel H2 [1, 2, 3, 4, 0, 5] (by decide) rfl⟩
      · try simp only [decide_eq_true_eq, decide_eq_false_iff_not, Bool.and_eq_true, Bool.or_eq_true, Bool.and_eq_false_iff, Bool.or_eq_false_iff, Bool.not_eq_true', Bool.not_eq_false', beq_iff_eq, bne_iff_ne, ne_eq, Decidable.not_not] at hc3
        refine CW.exit (thenE_exit (thenE_exit (blockE_hit ?_)))
        refine thenE_norm (h9 _ _ ?_); clear h9; try clear K9
        refine CW.seq (fun K26 h26 => ?_)
        refine CW.region ?_
        refine r_call rfl Try.call32 (by simp only [List.map_cons, List.map_nil, List.map_toArray, List.toList_toArray, upd_get, ev, Nat.reduceEqDiff, ↓reduceIte] <;> rfl) (awake14_c _) ?_
        rintro _ w24_0 ⟨rfl, X⟩
        refine ⟨_, rfl, ?_⟩
        replace H := SH.same H X
        clear X
        refine r_assign rfl ?_
        refine LW.nil ?_
        refine thenE_norm (h26 _ _ ?_); clear h26; try clear K26
        refine CW.ret (ret1 Try.results12 (by simp only [upd_get, ev, Nat.reduceEqDiff, ↓reduceIte]; rfl) ?_)
        exact ⟨rfl, H.ext⟩
end Go.Proofs.Ytalieccfdmokmaa
