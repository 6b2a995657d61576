/-
  The walks of layer 15's laws, the fifth part: LearnRuns.
-/
import Derived.Test.YtalieccfdmokmaaVLeJ
import Derived.Test.YtalieccfdmokmaaVBnF
namespace Go.Proofs.Ytalieccfdmokmaa
set_option linter.unusedSimpArgs false
set_option linter.unusedVariables false
set_option maxRecDepth 20000
open Go.V Go.RowKit Go.ChangeShapes Go.WideShapes

structure Act15 where
  fromv : Int
  ballot : Int
  slot : Int
  ns : Value
  trim : Bool
def Act15.L (a : Act15) : List Value := [.int .i64 a.fromv, .int .i64 a.ballot, .int .i64 a.slot, a.ns, .bool a.trim]
instance : Row Act15 := ⟨5, Act15.L, ⟨0, 0, 0, .slice none 0 0, false⟩, fun _ => rfl, rfl⟩
def Act15.Good (w : World) (a : Act15) : Prop := I64 a.fromv ∧ I64 a.ballot ∧ I64 a.slot ∧ (∃ xs : List UInt8, Rs (Old w) w a.ns xs ∧ ∀ y ∈ xs, True) ∧ True
theorem Act15.opens : Opens Try.prog (α := Act15) 67 Act15.Good := fun H enc w base spare held fuel cs x hl h => by
  obtain ⟨u0, u1, u2, u3, u4, rfl⟩ := list5 hl
  obtain ⟨m0, hf0⟩ := open_fields Try.underlying67 h
  obtain ⟨y0, t0⟩ := hf0 0 _ 1 rfl (by kernel_rfl)
  obtain ⟨a0, e0, -, w0⟩ := DataW.trod_int Try.underlying3 t0
  obtain rfl : u0 = _ := by simpa using e0
  obtain ⟨y1, t1⟩ := hf0 1 _ 1 rfl (by kernel_rfl)
  obtain ⟨a1, e1, -, w1⟩ := DataW.trod_int Try.underlying3 t1
  obtain rfl : u1 = _ := by simpa using e1
  obtain ⟨y2, t2⟩ := hf0 2 _ 1 rfl (by kernel_rfl)
  obtain ⟨a2, e2, -, w2⟩ := DataW.trod_int Try.underlying3 t2
  obtain rfl : u2 = _ := by simpa using e2
  obtain ⟨y3, t3⟩ := hf0 3 _ 1 rfl (by kernel_rfl)
  obtain ⟨a3, xs3, e3, r3, g3⟩ := Opens.rows (β := UInt8) Try.underlying22 (opens_u8 Try.underlying5) (by kernel_rfl) t3
  obtain rfl : u3 = _ := by simpa using e3
  have o3 := r3.oneC
  obtain ⟨y4, t4⟩ := hf0 4 _ 1 rfl (by kernel_rfl)
  obtain ⟨a4, e4, -⟩ := DataW.trod_bool Try.underlying4 t4
  obtain rfl : u4 = _ := by simpa using e4
  exact ⟨⟨a0, a1, a2, u3, a4⟩, rfl, (by first | rfl | (simp only [Row.cells, Act15.L]; repeat (first | rfl | refine Bool.and_eq_true_iff.2 ⟨(by first | rfl | assumption), ?_⟩))), ⟨i64_wf w0, i64_wf w1, i64_wf w2, ⟨xs3, r3, g3⟩, trivial⟩⟩
theorem SH.shareIR {α : Type} [Row α] {U G : Nat → Prop} {w0 w : World} {L : List Ch} {F : Nat → Prop} {A : World → Prop} {v : Value} {xs : List α} {i : Nat} (H : SH U G w0 w L) (hi : At L i (.I F A)) (h : Rs F w v xs) : SH U G w0 w (L ++ [.R F v xs]) := by
  have hc := H.val.1 _ hi.mem
  refine ⟨H.ext, H.val.app (Val.one ⟨h, Ch.stR, hc.lt, fun h => h.elim, hc.imm⟩) ?_⟩
  intro c hcm d hd ho b h1 h2
  rw [List.mem_singleton] at hd
  subst hd
  rcases ho with ho | ho
  · obtain ⟨L1, L2, e, _⟩ := hi.split
    have hp := H.val.2
    rw [e] at hp hcm
    have hp1 := List.pairwise_append.1 hp
    rcases (by simpa using hcm : c ∈ L1 ∨ c = _ ∨ c ∈ L2) with hm | rfl | hm
    · exact hp1.2.2 c hm (.I F A) (by simp) (.inl ho) b h1 h2
    · exact ho
    · exact (List.pairwise_cons.1 hp1.2.1).1 c hm (.inr ho) b h2 h1
  · exact ho
theorem RLnA.cellD {b : Nat} {n d : Int} {raws : List Sd} {FR : Nat → Prop} {w : World} (h : RLnA b n d raws FR w) : w.cell? ⟨b, 0 + 1, none⟩ = some (.int .i64 d) := by
  obtain ⟨v, g, h⟩ := h
  have h1 := (h.1.1 (.B b 71 [.int .i64 n, .int .i64 d, v]) (by simp)).holds
  exact Blk.cell (o := 1) h1 rfl
theorem hear_reqs (s : LnS) (i b sl : Int) (f : Bool) (v : Int) (t : Tp) (m : Int) (r1 r2 : Value) (rs : List Rq) : hearM s i b sl ⟨f, v, t, m, r1⟩ rs = hearM s i b sl ⟨f, v, t, m, r2⟩ rs := rfl
theorem set_len {α : Type} : ∀ (l : List (Int × α)) (n : Int) (y : α), (setM l n y).length ≤ l.length + 1
  | [], n, y => by simp [setM]
  | p :: r, n, y => by
    rw [setM]
    split
    · simp
    · have := set_len r n y
      simp only [List.length_cons]; omega
theorem hear_nd (s : LnS) (i b sl : Int) (x : Bat) (rs : List Rq) : (hearM s i b sl x rs).1.n = s.n ∧ (hearM s i b sl x rs).1.done = s.done ∧ (hearM s i b sl x rs).1.heard.length ≤ s.heard.length + 1 := by
  unfold hearM
  split
  · split
    · exact ⟨rfl, rfl, by dsimp only; omega⟩
    · split
      · exact ⟨rfl, rfl, by dsimp only; omega⟩
      · split
        · exact ⟨rfl, rfl, by dsimp only; omega⟩
        · exact ⟨rfl, rfl, set_len _ _ _⟩
  · exact ⟨rfl, rfl, by dsimp only; omega⟩
theorem trim_nd (s : LnS) (d : Int) : (trimL s d).n = s.n ∧ (trimL s d).done = (if d ≤ s.done ∨ 2305843009213693952 < d then s.done else d) ∧ (trimL s d).heard = (if d ≤ s.done ∨ 2305843009213693952 < d then s.heard else s.heard.filter fun p => decide (d < p.1)) := by
  unfold trimL
  split
  · exact ⟨rfl, rfl, rfl⟩
  · exact ⟨rfl, rfl, rfl⟩
theorem sd_filt {K : Nat → Prop} {n : Int} {w : World} (d : Int) : ∀ {raws : List Sd} {hs : List (Int × Tm)}, SdA K n raws hs w → SdA K n (raws.filter fun r => decide (d < r.slot)) (hs.filter fun p => decide (d < p.1)) w
  | [], [], _ => trivial
  | r :: raws, p :: hs, h => by
    rw [List.filter_cons, List.filter_cons, h.1.sl]
    by_cases hd : d < p.1
    · rw [if_pos (decide_eq_true hd), if_pos (decide_eq_true hd)]
      exact ⟨h.1, sd_filt d h.2⟩
    · rw [if_neg (by rw [decide_eq_false hd]; decide), if_neg (by rw [decide_eq_false hd]; decide)]
      exact sd_filt d h.2
set_option maxHeartbeats 32000000 in
theorem LearnRuns_c {F : Nat → Prop} {v : Value} {acts : List Act15} (n : Int) (w : World) (hv : Rs F w v acts) (hg : ∀ a ∈ acts, ∃ xs : List UInt8, Rs (Old w) w a.ns xs ∧ xs.length ≤ 140737488355328) :
    Calls Try.prog 7 #[.int .i64 n, v] w fun e w' => e = .returned (.bool true) ∧ Ext0 w w' := by
  have H := (SH.start w).arg hv
  have h63 := hv.len63
  refine calls_of_CW Try.func7 rfl Try.ntmps7 (Nat.le_of_ble_eq_true rfl) ?_
  simp only [argE, argFrom, Nat.reduceAdd]
  refine CW.seq (fun K1 h1 => ?_)
  refine CW.region ?_
  refine r_assign rfl ?_
  refine LW.nil ?_
  refine thenE_norm (h1 _ _ ?_); clear h1; try clear K1
  refine CW.seq (fun K2 h2 => ?_)
  refine CW.seq (fun K3 h3 => ?_)
  refine CW.region ?_
  refine r_move rfl ?_
  first
    | refine r_lenV rfl Try.underlying63 (by simp only [upd_get, ev, Nat.reduceEqDiff, ↓reduceIte] <;> rfl) (by first | assumption | exact SH.rsR H (by (repeat first | exact At.here | apply At.there); done) | exact SH.rsO H (by (repeat first | exact At.here | apply At.there); done) | exact (Rs.nil : Rs Non _ _ _)) ?_
    | refine r_len rfl Try.underlying63 rfl ?_
  refine r_gtr rfl rfl rfl ?_
  refine LW.nil ?_
  refine thenE_norm (h3 _ _ ?_); clear h3; try clear K3
  refine CW.cond rfl (fun hc1 => ?_) (fun hc1 => ?_)
  · try simp only [decide_eq_true_eq, decide_eq_false_iff_not, Bool.and_eq_true, Bool.or_eq_true, Bool.and_eq_false_iff, Bool.or_eq_false_iff, Bool.not_eq_true', Bool.not_eq_false', beq_iff_eq, bne_iff_ne, ne_eq, Decidable.not_not] at hc1
    refine CW.seq (fun K4 h4 => ?_)
    refine CW.region ?_
    refine r_call rfl Try.call22 (by simp only [List.map_cons, List.map_nil, List.map_toArray, List.toList_toArray, upd_get, ev, Nat.reduceEqDiff, ↓reduceIte] <;> rfl) (awake15_c _) ?_
    rintro _ w2_0 ⟨rfl, X⟩
    refine ⟨_, rfl, ?_⟩
    replace H := SH.same H X
    clear X
    refine r_assign rfl ?_
    refine LW.nil ?_
    refine thenE_norm (h4 _ _ ?_); clear h4; try clear K4
    refine CW.ret (thenE_ret (ret1 Try.results7 (by simp only [upd_get, ev, Nat.reduceEqDiff, ↓reduceIte]; rfl) ?_))
    exact ⟨rfl, H.ext⟩
  · try simp only [decide_eq_true_eq, decide_eq_false_iff_not, Bool.and_eq_true, Bool.or_eq_true, Bool.and_eq_false_iff, Bool.or_eq_false_iff, Bool.not_eq_true', Bool.not_eq_false', beq_iff_eq, bne_iff_ne, ne_eq, Decidable.not_not] at hc1
    refine CW.skip ?_
    refine thenE_norm (h2 _ _ ?_); clear h2; try clear K2
    refine CW.seq (fun K5 h5 => ?_)
    by_cases hn : 1 ≤ n ∧ n ≤ 7
    · refine CW.region ?_
      refine r_move rfl ?_
      refine r_call rfl Try.call21 (by simp only [List.map_cons, List.map_nil, List.map_toArray, List.toList_toArray, upd_get, ev, Nat.reduceEqDiff, ↓reduceIte] <;> rfl) (LrnNew_c n _ hn) ?_
      rintro _ w3_1 ⟨p, FN, rfl, K⟩
      refine ⟨_, rfl, ?_⟩
      replace H := SH.call H K
      clear K
      try dsimp only [replC, List.cons_append, List.nil_append, List.append_nil] at H
      refine r_move rfl ?_
      refine r_call rfl Try.call33 (by simp only [List.map_cons, List.map_nil, List.map_toArray, List.toList_toArray, upd_get, ev, Nat.reduceEqDiff, ↓reduceIte] <;> rfl) (RLnNew_c n _ hn) ?_
      rintro _ w3_3 ⟨pr, FNr, rfl, K⟩
      refine ⟨_, rfl, ?_⟩
      replace H := SH.call H K
      clear K
      try dsimp only [replC, List.cons_append, List.nil_append, List.append_nil] at H
      refine r_assign rfl ?_
      refine r_assign rfl ?_
      refine LW.nil ?_
      refine thenE_norm ?_
      refine cut (K := K5) [1, 5, 6] (fun σ => ?_)
      simp only [setL, keepE, upd_get, ev, Nat.reduceEqDiff, ↓reduceIte]
      refine h5 _ _ ?_; clear h5; try clear K5
      refine CW.seq (fun K6 h6 => ?_)
      refine CW.seq (fun K7 h7 => ?_)
      refine CW.region ?_
      refine r_move rfl ?_
      refine r_eqlP rfl Try.underlying42 rfl rfl ?_
      refine r_move rfl ?_
      refine r_eqlP rfl Try.underlying64 rfl rfl ?_
      refine r_neqB rfl Try.underlying4 rfl rfl ?_
      refine LW.nil ?_
      refine thenE_norm (h7 _ _ ?_); clear h7; try clear K7
      refine CW.condF rfl (by first | rfl | (simp only [decide_eq_true_eq, decide_eq_false_iff_not, Bool.and_eq_true, Bool.or_eq_true, Bool.and_eq_false_iff, Bool.or_eq_false_iff, Bool.not_eq_true', Bool.not_eq_false', beq_iff_eq, bne_iff_ne]; omega) | simp_all) ?_
      refine CW.skip ?_
      refine thenE_norm (h6 _ _ ?_); clear h6; try clear K6
      refine CW.seq (fun K8 h8 => ?_)
      refine CW.seq (fun K9 h9 => ?_)
      refine CW.region ?_
      refine r_move rfl ?_
      refine r_eqlP rfl Try.underlying64 rfl rfl ?_
      refine LW.nil ?_
      refine thenE_norm (h9 _ _ ?_); clear h9; try clear K9
      refine CW.condF rfl (by first | rfl | (simp only [decide_eq_true_eq, decide_eq_false_iff_not, Bool.and_eq_true, Bool.or_eq_true, Bool.and_eq_false_iff, Bool.or_eq_false_iff, Bool.not_eq_true', Bool.not_eq_false', beq_iff_eq, bne_iff_ne]; omega) | simp_all) ?_
      refine CW.skip ?_
      refine thenE_norm (h8 _ _ ?_); clear h8; try clear K8
      refine CW.seq (fun K10 h10 => ?_)
      refine CW.seq (fun K11 h11 => ?_)
      replace H : SH Non Any w w3_3 [.R (Old w) v acts, .P FN (LrnA p ⟨n, 0, []⟩ FN), .P FNr (RLnA pr n 0 [] FNr), .I Non (SdA Non n [] [])] := SH.addI H sd_st trivial
      refine CW.region ?_
      refine r_assign rfl ?_
      refine LW.nil ?_
      refine thenE_norm ?_
      refine cut (K := K11) [1, 5, 6, 7] (fun σ => ?_)
      simp only [setL, keepE, upd_get, ev, Nat.reduceEqDiff, ↓reduceIte]
      refine h11 _ _ ?_; clear h11; try clear K11
      refine CW.block ?_
      refine CW.loopR [1, 5, 6] [7] (fun m vs w' => ∃ (i : Nat) (S : LnS) (raws : List Sd) (FA FR FI : Nat → Prop), vs = [.int .i64 i] ∧ i ≤ acts.length ∧ m = acts.length - i ∧ S.heard.length ≤ i ∧ SH Non Any w w' [.R (Old w) v acts, .P FA (LrnA p S FA), .P FR (RLnA pr S.n S.done raws FR), .I FI (SdA FI S.n raws S.heard)]) (acts.length) ?_ ?_
      · exact ⟨0, ⟨n, 0, []⟩, [], _, _, _, rfl, by omega, by omega, Nat.le_refl _, H⟩
      try clear H
      rintro n1 vs1 wL1 σ ⟨i, S, raws, FA, FR, FI, rfl, hi, rfl, hSl, H⟩
      simp only [setL, keepE, upd_get, ev, Nat.reduceEqDiff, ↓reduceIte]
      refine CW.seq (fun K12 h12 => ?_)
      refine CW.seq (fun K13 h13 => ?_)
      refine CW.region ?_
      refine r_move rfl ?_
      refine r_move rfl ?_
      first
        | refine r_lenV rfl Try.underlying63 (by simp only [upd_get, ev, Nat.reduceEqDiff, ↓reduceIte] <;> rfl) (by first | assumption | exact SH.rsR H (by (repeat first | exact At.here | apply At.there); done) | exact SH.rsO H (by (repeat first | exact At.here | apply At.there); done) | exact (Rs.nil : Rs Non _ _ _)) ?_
        | refine r_len rfl Try.underlying63 rfl ?_
      refine r_lss rfl rfl rfl ?_
      refine LW.nil ?_
      refine thenE_norm (h13 _ _ ?_); clear h13; try clear K13
      refine CW.cond rfl (fun hc4 => ?_) (fun hc4 => ?_)
      · try simp only [decide_eq_true_eq, decide_eq_false_iff_not, Bool.and_eq_true, Bool.or_eq_true, Bool.and_eq_false_iff, Bool.or_eq_false_iff, Bool.not_eq_true', Bool.not_eq_false', beq_iff_eq, bne_iff_ne, ne_eq, Decidable.not_not] at hc4
        refine CW.skip ?_
        refine thenE_norm (h12 _ _ ?_); clear h12; try clear K12
        refine CW.seq (fun K14 h14 => ?_)
        refine CW.block ?_
        refine CW.seq (fun K15 h15 => ?_)
        obtain ⟨a, ha⟩ := get_of_lt (show i < acts.length by omega)
        obtain ⟨xs, hxs, hxl⟩ := hg a (List.mem_of_getElem? ha)
        obtain ⟨c1, c2, c3, c4, c5⟩ := a
        dsimp only at hxs
        have hoa : oneC c4 = true := Rs.oneC hxs
        have hok : OkL S := (SH.prop H (i := 1) rfl).1
        have hrl : raws.length = S.heard.length := All2.len (SH.propI H (i := 3) rfl)
        refine CW.region ?_
        refine r_move rfl ?_
        refine r_move rfl ?_
        refine r_indexAddrV rfl Try.underlying63 (by simp only [upd_get, ev, Nat.reduceEqDiff, ↓reduceIte] <;> rfl) rfl (by first | assumption | exact SH.rsR H (by (repeat first | exact At.here | apply At.there); done) | exact SH.rsO H (by (repeat first | exact At.here | apply At.there); done) | exact (Rs.nil : Rs Non _ _ _)) (by exact Try.sizeOf67) (by omega) (by omega) ?_
        refine r_loadA rfl Try.isAgg67 Try.sizeOf67 rfl (by first | exact Rs.cells0 (by first | assumption | exact SH.rsR H (by (repeat first | exact At.here | apply At.there); done) | exact SH.rsO H (by (repeat first | exact At.here | apply At.there); done) | exact (Rs.nil : Rs Non _ _ _)) (by assumption)) (by rfl) ?_
        refine s_alloc (cs := [.int .i64 0, .int .i64 0, .int .i64 0, .slice none 0 0, .bool false]) H rfl Try.zeroValue67 rfl ?_
        clear H
        intro b11_4 w11_4 H
        try dsimp only [replC, List.cons_append, List.nil_append, List.append_nil, agg, cellsL, Value.cells, List.toList_toArray, List.set_cons_zero, List.set_cons_succ, spliceL, List.take_succ_cons, List.take_zero, List.drop_succ_cons, List.drop_zero, List.length_cons, List.length_nil, Nat.reduceAdd, Row.cells, Cm.L, Rq.L, Tp.L, Bat.L, Ty.L, Sd.L, Act15.L] at H
        refine s_storeA H Try.sizeOf67 rfl (by simp only [upd_get, ev, Nat.reduceEqDiff, ↓reduceIte] <;> rfl) (by simp only [cellsL, agg, List.toList_toArray, Row.cells, Cm.L, Rq.L, Tp.L, Bat.L, Ty.L, Sd.L, Act15.L] <;> rfl) (by rfl) (by first | rfl | assumption | exact Rs.oneC (by first | assumption | exact SH.rsR H (by (repeat first | exact At.here | apply At.there); done) | exact SH.rsO H (by (repeat first | exact At.here | apply At.there); done) | exact (Rs.nil : Rs Non _ _ _)) | (simp only [List.all_cons, List.all_nil, Bool.and_true, Bool.and_eq_true, Row.cells, Cm.L, Rq.L, Tp.L, Bat.L, Ty.L, Sd.L, Act15.L]; (repeat' constructor) <;> first | rfl | assumption | exact Rs.oneC (by first | assumption | exact SH.rsR H (by (repeat first | exact At.here | apply At.there); done) | exact SH.rsO H (by (repeat first | exact At.here | apply At.there); done) | exact (Rs.nil : Rs Non _ _ _)))) (by (repeat first | exact At.here | apply At.there); done) (by first | (simp; done) | decide | (show _ ≤ _; decide)) ?_
        clear H
        intro w11_5 H
        try dsimp only [replC, List.cons_append, List.nil_append, List.append_nil, agg, cellsL, Value.cells, List.toList_toArray, List.set_cons_zero, List.set_cons_succ, spliceL, List.take_succ_cons, List.take_zero, List.drop_succ_cons, List.drop_zero, List.length_cons, List.length_nil, Nat.reduceAdd, Row.cells, Cm.L, Rq.L, Tp.L, Bat.L, Ty.L, Sd.L, Act15.L] at H
        refine LW.nil ?_
        refine thenE_norm ?_
        refine cut (K := K15) [1, 5, 6, 7, 8] (fun σ => ?_)
        simp only [setL, keepE, upd_get, ev, Nat.reduceEqDiff, ↓reduceIte]
        refine h15 _ _ ?_; clear h15; try clear K15
        refine CW.seqJ [1, 5, 6, 7] [] (fun vs w' => ∃ (S' : LnS) (raws' : List Sd) (FA' FR' FI' : Nat → Prop), vs = [] ∧ S'.heard.length ≤ i + 1 ∧ SH Non Any w w' [.R (Old w) v acts, .P FA' (LrnA p S' FA'), .P FR' (RLnA pr S'.n S'.done raws' FR'), .I FI' (SdA FI' S'.n raws' S'.heard)]) ?_ ?_
        · refine CW.seq (fun K17 h17 => ?_)
          refine CW.region ?_
          refine r_fieldAddrO rfl Try.underlying67 rfl Try.sizeOf4 (by decide) (show _ = 4 from rfl) rfl ?_
          refine r_load rfl Try.isAgg4 rfl (by first | exact SH.cellB H (by (repeat first | exact At.here | apply At.there); done) (by rfl) | assumption) ?_
          refine LW.nil ?_
          refine thenE_norm (h17 _ _ ?_); clear h17; try clear K17
          refine CW.cond rfl (fun hc5 => ?_) (fun hc5 => ?_)
          · try simp only [decide_eq_true_eq, decide_eq_false_iff_not, Bool.and_eq_true, Bool.or_eq_true, Bool.and_eq_false_iff, Bool.or_eq_false_iff, Bool.not_eq_true', Bool.not_eq_false', beq_iff_eq, bne_iff_ne, ne_eq, Decidable.not_not] at hc5
            refine CW.seq (fun K18 h18 => ?_)
            refine CW.region ?_
            refine r_move rfl ?_
            refine r_fieldAddrO rfl Try.underlying67 rfl Try.sizeOf3 (by decide) (show _ = 2 from rfl) rfl ?_
            refine r_load rfl Try.isAgg3 rfl (by first | exact SH.cellB H (by (repeat first | exact At.here | apply At.there); done) (by rfl) | assumption) ?_
            refine r_call rfl Try.call34 (by simp only [List.map_cons, List.map_nil, List.map_toArray, List.toList_toArray, upd_get, ev, Nat.reduceEqDiff, ↓reduceIte] <;> rfl) (TrimL_c _ _ (SH.prop H (i := 1) rfl)) ?_
            rintro _ w13_3 ⟨FN13_3, rfl, K⟩
            refine ⟨_, rfl, ?_⟩
            replace H := SH.updP H (i := 1) rfl K
            clear K
            try dsimp only [replC, List.cons_append, List.nil_append, List.append_nil] at H
            refine LW.nil ?_
            refine thenE_norm (h18 _ _ ?_); clear h18; try clear K18
            refine CW.region ?_
            refine r_move rfl ?_
            refine r_fieldAddrO rfl Try.underlying67 rfl Try.sizeOf3 (by decide) (show _ = 2 from rfl) rfl ?_
            refine r_load rfl Try.isAgg3 rfl (by first | exact SH.cellB H (by (repeat first | exact At.here | apply At.there); done) (by rfl) | assumption) ?_
            refine r_call rfl Try.call35 (by simp only [List.map_cons, List.map_nil, List.map_toArray, List.toList_toArray, upd_get, ev, Nat.reduceEqDiff, ↓reduceIte] <;> rfl) (RTrimL_c _ _ (SH.prop H (i := 2) rfl) (by omega)) ?_
            rintro _ w14_3 ⟨FN14_3, rfl, K⟩
            refine ⟨_, rfl, ?_⟩
            replace H := SH.updP H (i := 2) rfl K
            clear K
            try dsimp only [replC, List.cons_append, List.nil_append, List.append_nil] at H
            refine LW.nil ?_
            refine thenE_norm ?_
            obtain ⟨e1, e2, e3⟩ := trim_nd S c3
            have H2 := SH.cast (d := .I FI (SdA FI S.n (if c3 ≤ S.done ∨ 2305843009213693952 < c3 then raws else raws.filter fun r => decide (c3 < r.slot)) (trimL S c3).heard)) H (i := 3) rfl (fun h => h) (fun b hb => hb) sd_st (fun h => by
              rw [e3]
              by_cases hq : c3 ≤ S.done ∨ 2305843009213693952 < c3
              · rw [if_pos hq, if_pos hq]; exact h
              · rw [if_neg hq, if_neg hq]; exact sd_filt c3 h)
            have hlen5 : (trimL S c3).heard.length ≤ i + 1 := by
              rw [e3]
              split
              · omega
              · exact Nat.le_trans (List.length_filter_le _ _) (by omega)
            have H5 : SH Non Any w w14_3 [.R (Old w) v acts, .P FN13_3 (LrnA p (trimL S c3) FN13_3), .P FN14_3 (RLnA pr (trimL S c3).n (trimL S c3).done (if c3 ≤ S.done ∨ 2305843009213693952 < c3 then raws else raws.filter fun r => decide (c3 < r.slot)) FN14_3), .I FI (SdA FI (trimL S c3).n (if c3 ≤ S.done ∨ 2305843009213693952 < c3 then raws else raws.filter fun r => decide (c3 < r.slot)) (trimL S c3).heard)] := by
              rw [e1, e2]
              exact SH.sel H2 [0, 1, 2, 3] (by decide) rfl
            exact ⟨rfl, trimL S c3, _, _, _, _, rfl, hlen5, H5⟩
          · try simp only [decide_eq_true_eq, decide_eq_false_iff_not, Bool.and_eq_true, Bool.or_eq_true, Bool.and_eq_false_iff, Bool.or_eq_false_iff, Bool.not_eq_true', Bool.not_eq_false', beq_iff_eq, bne_iff_ne, ne_eq, Decidable.not_not] at hc5
            refine CW.seq (fun K19 h19 => ?_)
            refine CW.drawP [4] [] H (by dsimp only [pickC, nthC] <;> rfl) (by repeat first | exact List.Sublist.refl _ | exact List.nil_sublist _ | apply List.Sublist.cons_cons | apply List.Sublist.cons) (by kernel_rfl) rfl ?_
            clear H
            intro w15d H
            refine DL.take (i := 0) [] rfl (by kernel_rfl) (by kernel_rfl) (by kernel_rfl) (by kernel_rfl) rfl rfl (fun u H => x_move ) (SH.sub H (by repeat first | exact List.Sublist.refl _ | exact List.nil_sublist _ | apply List.Sublist.cons_cons | apply List.Sublist.cons)) ?_
            refine DL.take (i := 1) [] rfl (by kernel_rfl) (by kernel_rfl) (by kernel_rfl) (by kernel_rfl) rfl rfl (fun u H => x_fieldAddrO Try.underlying67 rfl Try.sizeOf3 (by decide) (show _ = 0 from rfl) rfl) (SH.sub H (by repeat first | exact List.Sublist.refl _ | exact List.nil_sublist _ | apply List.Sublist.cons_cons | apply List.Sublist.cons)) ?_
            refine DL.take (i := 2) [] rfl (by kernel_rfl) (by kernel_rfl) (by kernel_rfl) (by kernel_rfl) rfl rfl (fun u H => x_load Try.isAgg3 rfl (by first | exact SH.cellB H (by (repeat first | exact At.here | apply At.there); done) (by rfl) | assumption)) (SH.sub H (by repeat first | exact List.Sublist.refl _ | exact List.nil_sublist _ | apply List.Sublist.cons_cons | apply List.Sublist.cons)) ?_
            refine DL.take (i := 3) [] rfl (by kernel_rfl) (by kernel_rfl) (by kernel_rfl) (by kernel_rfl) rfl rfl (fun u H => x_fieldAddrO Try.underlying67 rfl Try.sizeOf3 (by decide) (show _ = 1 from rfl) rfl) (SH.sub H (by repeat first | exact List.Sublist.refl _ | exact List.nil_sublist _ | apply List.Sublist.cons_cons | apply List.Sublist.cons)) ?_
            refine DL.take (i := 4) [] rfl (by kernel_rfl) (by kernel_rfl) (by kernel_rfl) (by kernel_rfl) rfl rfl (fun u H => x_load Try.isAgg3 rfl (by first | exact SH.cellB H (by (repeat first | exact At.here | apply At.there); done) (by rfl) | assumption)) (SH.sub H (by repeat first | exact List.Sublist.refl _ | exact List.nil_sublist _ | apply List.Sublist.cons_cons | apply List.Sublist.cons)) ?_
            refine DL.take (i := 5) [] rfl (by kernel_rfl) (by kernel_rfl) (by kernel_rfl) (by kernel_rfl) rfl rfl (fun u H => x_fieldAddrO Try.underlying67 rfl Try.sizeOf3 (by decide) (show _ = 2 from rfl) rfl) (SH.sub H (by repeat first | exact List.Sublist.refl _ | exact List.nil_sublist _ | apply List.Sublist.cons_cons | apply List.Sublist.cons)) ?_
            refine DL.take (i := 6) [] rfl (by kernel_rfl) (by kernel_rfl) (by kernel_rfl) (by kernel_rfl) rfl rfl (fun u H => x_load Try.isAgg3 rfl (by first | exact SH.cellB H (by (repeat first | exact At.here | apply At.there); done) (by rfl) | assumption)) (SH.sub H (by repeat first | exact List.Sublist.refl _ | exact List.nil_sublist _ | apply List.Sublist.cons_cons | apply List.Sublist.cons)) ?_
            refine DL.take (i := 7) [] rfl (by kernel_rfl) (by kernel_rfl) (by kernel_rfl) (by kernel_rfl) rfl rfl (fun u H => x_fieldAddrO Try.underlying67 rfl Try.sizeOf22 (by decide) (show _ = 3 from rfl) rfl) (SH.sub H (by repeat first | exact List.Sublist.refl _ | exact List.nil_sublist _ | apply List.Sublist.cons_cons | apply List.Sublist.cons)) ?_
            refine DL.take (i := 8) [] rfl (by kernel_rfl) (by kernel_rfl) (by kernel_rfl) (by kernel_rfl) rfl rfl (fun u H => x_load Try.isAgg22 rfl (by first | exact SH.cellB H (by (repeat first | exact At.here | apply At.there); done) (by rfl) | assumption)) (SH.sub H (by repeat first | exact List.Sublist.refl _ | exact List.nil_sublist _ | apply List.Sublist.cons_cons | apply List.Sublist.cons)) ?_
            refine DL.take (i := 11) [] rfl (by kernel_rfl) (by kernel_rfl) (by kernel_rfl) (by kernel_rfl) rfl rfl (fun u H => x_move ) (SH.sub H (by repeat first | exact List.Sublist.refl _ | exact List.nil_sublist _ | apply List.Sublist.cons_cons | apply List.Sublist.cons)) ?_
            refine DL.take (i := 12) [] rfl (by kernel_rfl) (by kernel_rfl) (by kernel_rfl) (by kernel_rfl) rfl rfl (fun u H => x_fieldAddrO Try.underlying67 rfl Try.sizeOf3 (by decide) (show _ = 0 from rfl) rfl) (SH.sub H (by repeat first | exact List.Sublist.refl _ | exact List.nil_sublist _ | apply List.Sublist.cons_cons | apply List.Sublist.cons)) ?_
            refine DL.take (i := 13) [] rfl (by kernel_rfl) (by kernel_rfl) (by kernel_rfl) (by kernel_rfl) rfl rfl (fun u H => x_load Try.isAgg3 rfl (by first | exact SH.cellB H (by (repeat first | exact At.here | apply At.there); done) (by rfl) | assumption)) (SH.sub H (by repeat first | exact List.Sublist.refl _ | exact List.nil_sublist _ | apply List.Sublist.cons_cons | apply List.Sublist.cons)) ?_
            refine DL.take (i := 14) [] rfl (by kernel_rfl) (by kernel_rfl) (by kernel_rfl) (by kernel_rfl) rfl rfl (fun u H => x_fieldAddrO Try.underlying67 rfl Try.sizeOf3 (by decide) (show _ = 1 from rfl) rfl) (SH.sub H (by repeat first | exact List.Sublist.refl _ | exact List.nil_sublist _ | apply List.Sublist.cons_cons | apply List.Sublist.cons)) ?_
            refine DL.take (i := 15) [] rfl (by kernel_rfl) (by kernel_rfl) (by kernel_rfl) (by kernel_rfl) rfl rfl (fun u H => x_load Try.isAgg3 rfl (by first | exact SH.cellB H (by (repeat first | exact At.here | apply At.there); done) (by rfl) | assumption)) (SH.sub H (by repeat first | exact List.Sublist.refl _ | exact List.nil_sublist _ | apply List.Sublist.cons_cons | apply List.Sublist.cons)) ?_
            refine DL.take (i := 16) [] rfl (by kernel_rfl) (by kernel_rfl) (by kernel_rfl) (by kernel_rfl) rfl rfl (fun u H => x_fieldAddrO Try.underlying67 rfl Try.sizeOf3 (by decide) (show _ = 2 from rfl) rfl) (SH.sub H (by repeat first | exact List.Sublist.refl _ | exact List.nil_sublist _ | apply List.Sublist.cons_cons | apply List.Sublist.cons)) ?_
            refine DL.take (i := 17) [] rfl (by kernel_rfl) (by kernel_rfl) (by kernel_rfl) (by kernel_rfl) rfl rfl (fun u H => x_load Try.isAgg3 rfl (by first | exact SH.cellB H (by (repeat first | exact At.here | apply At.there); done) (by rfl) | assumption)) (SH.sub H (by repeat first | exact List.Sublist.refl _ | exact List.nil_sublist _ | apply List.Sublist.cons_cons | apply List.Sublist.cons)) ?_
            refine DL.take (i := 18) [] rfl (by kernel_rfl) (by kernel_rfl) (by kernel_rfl) (by kernel_rfl) rfl rfl (fun u H => x_fieldAddrO Try.underlying67 rfl Try.sizeOf22 (by decide) (show _ = 3 from rfl) rfl) (SH.sub H (by repeat first | exact List.Sublist.refl _ | exact List.nil_sublist _ | apply List.Sublist.cons_cons | apply List.Sublist.cons)) ?_
            refine DL.take (i := 19) [] rfl (by kernel_rfl) (by kernel_rfl) (by kernel_rfl) (by kernel_rfl) rfl rfl (fun u H => x_load Try.isAgg22 rfl (by first | exact SH.cellB H (by (repeat first | exact At.here | apply At.there); done) (by rfl) | assumption)) (SH.sub H (by repeat first | exact List.Sublist.refl _ | exact List.nil_sublist _ | apply List.Sublist.cons_cons | apply List.Sublist.cons)) ?_
            refine DL.one (i := 9) (by kernel_rfl) rfl rfl ?_
            refine r_call rfl Try.call16 (by simp only [List.map_cons, List.map_nil, List.map_toArray, List.toList_toArray, upd_get, ev, Nat.reduceEqDiff, ↓reduceIte] <;> rfl) (BatchN_c _ (hxs.up0 (SH.ext H)) hxl) ?_
            rintro _ w15_9 ⟨v15_9, g15_9, rfl, hm15_9, hs15_9, K⟩
            refine ⟨_, rfl, ?_⟩
            replace H := SH.call H K
            clear K
            try dsimp only [replC, List.cons_append, List.nil_append, List.append_nil] at H
            refine LW.nil (thenE_norm ⟨fun _ => (SH.sub H (by repeat first | exact List.Sublist.refl _ | exact List.nil_sublist _ | apply List.Sublist.cons_cons | apply List.Sublist.cons)), ?_⟩)
            refine DL.one (i := 10) (by kernel_rfl) rfl rfl ?_
            refine r_call rfl Try.call23 (by simp only [List.map_cons, List.map_nil, List.map_toArray, List.toList_toArray, upd_get, ev, Nat.reduceEqDiff, ↓reduceIte] <;> rfl) (Hear_c _ _ _ ⟨_, _, ⟨_, _⟩, _, _⟩ _ (SH.prop H (i := 1) rfl) (SH.rsO H (i := 5) rfl) (SH.apartPO H (i := 1) (j := 5) rfl rfl (by decide)) hs15_9) ?_
            rintro _ w15_10 ⟨FN15_10, rfl, K⟩
            refine ⟨_, rfl, ?_⟩
            replace H := SH.updP H (i := 1) rfl K
            clear K
            try dsimp only [replC, List.cons_append, List.nil_append, List.append_nil] at H
            refine LW.nil (thenE_norm ⟨fun _ => (SH.sub H (by repeat first | exact List.Sublist.refl _ | exact List.nil_sublist _ | apply List.Sublist.cons_cons | apply List.Sublist.cons)), ?_⟩)
            refine DL.one (i := 20) (by kernel_rfl) rfl rfl ?_
            refine r_call rfl Try.call16 (by simp only [List.map_cons, List.map_nil, List.map_toArray, List.toList_toArray, upd_get, ev, Nat.reduceEqDiff, ↓reduceIte] <;> rfl) (BatchN_c _ (hxs.up0 (SH.ext H)) hxl) ?_
            rintro _ w15_20 ⟨v15_20, g15_20, rfl, hm15_20, hs15_20, K⟩
            refine ⟨_, rfl, ?_⟩
            replace H := SH.call H K
            clear K
            try dsimp only [replC, List.cons_append, List.nil_append, List.append_nil] at H
            refine LW.nil (thenE_norm ⟨fun _ => (SH.sub H (by repeat first | exact List.Sublist.refl _ | exact List.nil_sublist _ | apply List.Sublist.cons_cons | apply List.Sublist.cons)), ?_⟩)
            refine DL.one (i := 21) (by kernel_rfl) rfl rfl ?_
            refine r_call rfl Try.call36 (by simp only [List.map_cons, List.map_nil, List.map_toArray, List.toList_toArray, upd_get, ev, Nat.reduceEqDiff, ↓reduceIte] <;> rfl) (RHear_c (s := S) _ _ _ ⟨_, _, ⟨_, _⟩, _, _⟩ _ hok (SH.prop H (i := 2) rfl) (SH.propI H (i := 3) rfl) (fun k h1 h2 => (SH.val H).apart (i := 3) (j := 2) rfl rfl (by decide) (.inr trivial) k h1 h2) (fun k hk => ((SH.val H).1 _ (At.mem (i := 3) rfl)).lt k hk) (SH.rsO H (i := 6) rfl) (SH.apartPO H (i := 2) (j := 6) rfl rfl (by decide)) (by omega)) ?_
            rintro _ w15_21 ⟨raws15_21, vw15_21, ws15_21, gw15_21, FN15_21, rfl, K, hrel15_21⟩
            refine ⟨_, rfl, ?_⟩
            replace H := SH.updP H (i := 2) rfl K
            clear K
            try dsimp only [replC, List.cons_append, List.nil_append, List.append_nil] at H
            refine LW.nil (thenE_norm ⟨fun _ => (SH.sub H (by repeat first | exact List.Sublist.refl _ | exact List.nil_sublist _ | apply List.Sublist.cons_cons | apply List.Sublist.cons)), ?_⟩)
            refine DL.take (i := 22) [] rfl (by kernel_rfl) (by kernel_rfl) (by kernel_rfl) (by kernel_rfl) rfl rfl (fun u H => x_neq rfl rfl) (SH.sub H (by repeat first | exact List.Sublist.refl _ | exact List.nil_sublist _ | apply List.Sublist.cons_cons | apply List.Sublist.cons)) ?_
            refine DL.done (by kernel_rfl) ?_
            refine thenE_norm ?_
            refine cut (K := K19) [1, 5, 6, 7, 76] (fun σ => ?_)
            simp only [setL, keepE, upd_get, ev, Nat.reduceEqDiff, ↓reduceIte]
            refine h19 _ _ ?_; clear h19; try clear K19
            refine CW.condF rfl (decide_eq_false (fun h => h rfl)) ?_
            refine CW.skip ?_
            refine thenE_norm ?_
            obtain ⟨e1, e2, e3⟩ := hear_nd S c1 c2 c3 ⟨(batN xs).fill, (batN xs).view, ⟨(batN xs).tip.view, (batN xs).tip.slot⟩, (batN xs).time, v15_9⟩ (batN xs).rs
            have H2 := SH.freeze (SH.freeze H (i := 3) rfl) (i := 7) rfl
            have H3 := SH.blend (A' := fun u => SdA (fun b => FI b ∨ gw15_21 = some b) S.n raws S.heard u ∧ Rs (fun b => FI b ∨ gw15_21 = some b) u vw15_21 ws15_21) (SH.sel H2 [4, 3, 7, 0, 1, 2] (by decide) rfl) (fun h => h) (fun V w w' h e hd => ⟨sd_st V w w' h.1 e hd, h.2.up e hd⟩) (fun h k => ⟨SdA.mono h fun b hb => .inl hb, Rs.mono k fun b _ hb => .inr hb⟩)
            have H4 := SH.blend (A' := SdA _ S.n raws15_21 (hearM S c1 c2 c3 ⟨(batN xs).fill, (batN xs).view, ⟨(batN xs).tip.view, (batN xs).tip.slot⟩, (batN xs).time, v15_9⟩ (batN xs).rs).1.heard) H3 (fun h => h) sd_st (fun h k => hrel15_21 _ _ (SdA.mono h.1 fun b hb => .inl hb) (h.2.mono fun b _ hb => .inl hb) (Rs.mono k fun b _ hb => .inr hb))
            have hlen5 : (hearM S c1 c2 c3 ⟨(batN xs).fill, (batN xs).view, ⟨(batN xs).tip.view, (batN xs).tip.slot⟩, (batN xs).time, v15_9⟩ (batN xs).rs).1.heard.length ≤ i + 1 := by omega
            have H5 := SH.sel H4 [1, 2, 3, 0] (by decide) rfl
            generalize hSS : (hearM S c1 c2 c3 ⟨(batN xs).fill, (batN xs).view, ⟨(batN xs).tip.view, (batN xs).tip.slot⟩, (batN xs).time, v15_9⟩ (batN xs).rs).1 = SS at *
            rw [← e1, ← e2] at H5
            exact ⟨rfl, SS, raws15_21, _, _, _, rfl, hlen5, H5⟩
        try clear H
        rintro vs wJ σ ⟨S', raws', FA', FR', FI', rfl, hSl', H⟩
        simp only [setL, keepE, upd_get, ev, Nat.reduceEqDiff, ↓reduceIte]
        have hok' : OkL S' := (SH.prop H (i := 1) rfl).1
        have hd0 := hok'.d0
        have hd1 := hok'.d1
        refine CW.seq (fun K20 h20 => ?_)
        refine CW.seq (fun K21 h21 => ?_)
        refine CW.region ?_
        refine r_move rfl ?_
        refine r_nilCheck rfl rfl ?_
        refine r_fieldAddrO rfl Try.underlying71 rfl Try.sizeOf3 (by decide) (show _ + 1 = _ from rfl) rfl ?_
        refine r_load rfl Try.isAgg3 rfl (RLnA.cellD (SH.prop H (i := 2) rfl)) ?_
        refine r_sub rfl rfl rfl (wr_i64 (by omega) (by omega)) ?_
        refine r_assign rfl ?_
        refine LW.nil ?_
        refine thenE_norm ?_
        refine cut (K := K21) [1, 5, 6, 7, 9] (fun σ => ?_)
        simp only [setL, keepE, upd_get, ev, Nat.reduceEqDiff, ↓reduceIte]
        refine h21 _ _ ?_; clear h21; try clear K21
        refine CW.block ?_
        refine CW.loopR [1, 5, 6, 7] [9] (fun m vs w' => ∃ z : Int, vs = [.int .i64 z] ∧ S'.done - 1 ≤ z ∧ z ≤ S'.done + 11 ∧ m = (S'.done + 11 - z).toNat ∧ SH Non Any w w' [.R (Old w) v acts, .P FA' (LrnA p S' FA'), .P FR' (RLnA pr S'.n S'.done raws' FR'), .I FI' (SdA FI' S'.n raws' S'.heard)]) ((S'.done + 11 - (S'.done - 1)).toNat) ?_ ?_
        · exact ⟨S'.done - 1, rfl, by omega, by omega, rfl, H⟩
        try clear H
        rintro n2 vs2 wL2 σ ⟨z, rfl, hz0, hz1, rfl, H⟩
        simp only [setL, keepE, upd_get, ev, Nat.reduceEqDiff, ↓reduceIte]
        refine CW.seq (fun K22 h22 => ?_)
        refine CW.seq (fun K23 h23 => ?_)
        refine CW.region ?_
        refine r_move rfl ?_
        refine r_move rfl ?_
        refine r_nilCheck rfl rfl ?_
        refine r_fieldAddrO rfl Try.underlying71 rfl Try.sizeOf3 (by decide) (show _ + 1 = _ from rfl) rfl ?_
        refine r_load rfl Try.isAgg3 rfl (RLnA.cellD (SH.prop H (i := 2) rfl)) ?_
        refine r_add rfl rfl rfl (wr_i64 (by omega) (by omega)) ?_
        refine r_leq rfl rfl rfl ?_
        refine LW.nil ?_
        refine thenE_norm (h23 _ _ ?_); clear h23; try clear K23
        refine CW.cond rfl (fun hc7 => ?_) (fun hc7 => ?_)
        · try simp only [decide_eq_true_eq, decide_eq_false_iff_not, Bool.and_eq_true, Bool.or_eq_true, Bool.and_eq_false_iff, Bool.or_eq_false_iff, Bool.not_eq_true', Bool.not_eq_false', beq_iff_eq, bne_iff_ne, ne_eq, Decidable.not_not] at hc7
          refine CW.skip ?_
          refine thenE_norm (h22 _ _ ?_); clear h22; try clear K22
          refine CW.seq (fun K24 h24 => ?_)
          refine CW.block ?_
          refine CW.seq (fun K25 h25 => ?_)
          refine CW.region ?_
          refine r_move rfl ?_
          refine r_move rfl ?_
          refine r_call rfl Try.call24 (by simp only [List.map_cons, List.map_nil, List.map_toArray, List.toList_toArray, upd_get, ev, Nat.reduceEqDiff, ↓reduceIte] <;> rfl) (Chosen_c z _ (SH.prop H (i := 1) rfl)) ?_
          rintro _ w20_2 ⟨v20_2, g20_2, rfl, K⟩
          refine ⟨_, rfl, ?_⟩
          replace H := SH.call H K
          clear K
          try dsimp only [replC, List.cons_append, List.nil_append, List.append_nil] at H
          refine r_move rfl ?_
          refine r_extract rfl (by simp only [upd_get, ev, Nat.reduceEqDiff, ↓reduceIte] <;> rfl) (by simp only [List.getElem?_toArray, List.getElem?_cons_zero, List.getElem?_cons_succ] <;> rfl) ?_
          refine r_extract rfl (by simp only [upd_get, ev, Nat.reduceEqDiff, ↓reduceIte] <;> rfl) (by simp only [List.getElem?_toArray, List.getElem?_cons_zero, List.getElem?_cons_succ] <;> rfl) ?_
          refine s_alloc (cs := [.bool false, .int .i64 0, .int .i64 0, .int .i64 0, .int .i64 0, .slice none 0 0]) H rfl Try.zeroValue27 rfl ?_
          clear H
          intro b20_6 w20_6 H
          try dsimp only [replC, List.cons_append, List.nil_append, List.append_nil, agg, cellsL, Value.cells, List.toList_toArray, List.set_cons_zero, List.set_cons_succ, spliceL, List.take_succ_cons, List.take_zero, List.drop_succ_cons, List.drop_zero, List.length_cons, List.length_nil, Nat.reduceAdd, Row.cells, Cm.L, Rq.L, Tp.L, Bat.L, Ty.L, Sd.L, Act15.L] at H
          refine s_storeA H Try.sizeOf27 rfl (by simp only [upd_get, ev, Nat.reduceEqDiff, ↓reduceIte] <;> rfl) (by simp only [cellsL, agg, List.toList_toArray, Row.cells, Cm.L, Rq.L, Tp.L, Bat.L, Ty.L, Sd.L, Act15.L] <;> rfl) (by rfl) (by first | rfl | assumption | exact Rs.oneC (by first | assumption | exact SH.rsR H (by (repeat first | exact At.here | apply At.there); done) | exact SH.rsO H (by (repeat first | exact At.here | apply At.there); done) | exact (Rs.nil : Rs Non _ _ _)) | (simp only [List.all_cons, List.all_nil, Bool.and_true, Bool.and_eq_true, Row.cells, Cm.L, Rq.L, Tp.L, Bat.L, Ty.L, Sd.L, Act15.L]; (repeat' constructor) <;> first | rfl | assumption | exact Rs.oneC (by first | assumption | exact SH.rsR H (by (repeat first | exact At.here | apply At.there); done) | exact SH.rsO H (by (repeat first | exact At.here | apply At.there); done) | exact (Rs.nil : Rs Non _ _ _)))) (by (repeat first | exact At.here | apply At.there); done) (by first | (simp; done) | decide | (show _ ≤ _; decide)) ?_
          clear H
          intro w20_7 H
          try dsimp only [replC, List.cons_append, List.nil_append, List.append_nil, agg, cellsL, Value.cells, List.toList_toArray, List.set_cons_zero, List.set_cons_succ, spliceL, List.take_succ_cons, List.take_zero, List.drop_succ_cons, List.drop_zero, List.length_cons, List.length_nil, Nat.reduceAdd, Row.cells, Cm.L, Rq.L, Tp.L, Bat.L, Ty.L, Sd.L, Act15.L] at H
          refine r_assign rfl ?_
          refine LW.nil ?_
          refine thenE_norm ?_
          refine cut (K := K25) [1, 5, 6, 7, 9, 10, 11] (fun σ => ?_)
          simp only [setL, keepE, upd_get, ev, Nat.reduceEqDiff, ↓reduceIte]
          refine h25 _ _ ?_; clear h25; try clear K25
          refine CW.seq (fun K26 h26 => ?_)
          refine CW.region ?_
          refine r_move rfl ?_
          refine r_move rfl ?_
          refine r_call rfl Try.call37 (by simp only [List.map_cons, List.map_nil, List.map_toArray, List.toList_toArray, upd_get, ev, Nat.reduceEqDiff, ↓reduceIte] <;> rfl) (RChosen_c z _ hok' (SH.prop H (i := 2) rfl) (SH.propI H (i := 3) rfl)) ?_
          rintro _ w21_2 ⟨v21_2, rfl, hq21_2, X⟩
          refine ⟨_, rfl, ?_⟩
          replace H := SH.shareIR (SH.same H X) (i := 3) rfl (hq21_2.up0 X)
          clear X
          refine r_move rfl ?_
          refine r_extract rfl (by simp only [upd_get, ev, Nat.reduceEqDiff, ↓reduceIte] <;> rfl) (by simp only [List.getElem?_toArray, List.getElem?_cons_zero, List.getElem?_cons_succ] <;> rfl) ?_
          refine r_extract rfl (by simp only [upd_get, ev, Nat.reduceEqDiff, ↓reduceIte] <;> rfl) (by simp only [List.getElem?_toArray, List.getElem?_cons_zero, List.getElem?_cons_succ] <;> rfl) ?_
          refine s_alloc (cs := [.bool false, .int .i64 0, .int .i64 0, .int .i64 0, .int .i64 0, .slice none 0 0]) H rfl Try.zeroValue27 rfl ?_
          clear H
          intro b21_6 w21_6 H
          try dsimp only [replC, List.cons_append, List.nil_append, List.append_nil, agg, cellsL, Value.cells, List.toList_toArray, List.set_cons_zero, List.set_cons_succ, spliceL, List.take_succ_cons, List.take_zero, List.drop_succ_cons, List.drop_zero, List.length_cons, List.length_nil, Nat.reduceAdd, Row.cells, Cm.L, Rq.L, Tp.L, Bat.L, Ty.L, Sd.L, Act15.L] at H
          refine s_storeA H Try.sizeOf27 rfl (by simp only [upd_get, ev, Nat.reduceEqDiff, ↓reduceIte] <;> rfl) (by simp only [cellsL, agg, List.toList_toArray, Row.cells, Cm.L, Rq.L, Tp.L, Bat.L, Ty.L, Sd.L, Act15.L] <;> rfl) (by rfl) (by first | rfl | assumption | exact Rs.oneC (by first | assumption | exact SH.rsR H (by (repeat first | exact At.here | apply At.there); done) | exact SH.rsO H (by (repeat first | exact At.here | apply At.there); done) | exact (Rs.nil : Rs Non _ _ _)) | (simp only [List.all_cons, List.all_nil, Bool.and_true, Bool.and_eq_true, Row.cells, Cm.L, Rq.L, Tp.L, Bat.L, Ty.L, Sd.L, Act15.L]; (repeat' constructor) <;> first | rfl | assumption | exact Rs.oneC (by first | assumption | exact SH.rsR H (by (repeat first | exact At.here | apply At.there); done) | exact SH.rsO H (by (repeat first | exact At.here | apply At.there); done) | exact (Rs.nil : Rs Non _ _ _)))) (by (repeat first | exact At.here | apply At.there); done) (by first | (simp; done) | decide | (show _ ≤ _; decide)) ?_
          clear H
          intro w21_7 H
          try dsimp only [replC, List.cons_append, List.nil_append, List.append_nil, agg, cellsL, Value.cells, List.toList_toArray, List.set_cons_zero, List.set_cons_succ, spliceL, List.take_succ_cons, List.take_zero, List.drop_succ_cons, List.drop_zero, List.length_cons, List.length_nil, Nat.reduceAdd, Row.cells, Cm.L, Rq.L, Tp.L, Bat.L, Ty.L, Sd.L, Act15.L] at H
          refine r_assign rfl ?_
          refine LW.nil ?_
          refine thenE_norm ?_
          refine cut (K := K26) [1, 5, 6, 7, 9, 10, 11, 12, 13] (fun σ => ?_)
          simp only [setL, keepE, upd_get, ev, Nat.reduceEqDiff, ↓reduceIte]
          refine h26 _ _ ?_; clear h26; try clear K26
          refine CW.seq (fun K27 h27 => ?_)
          refine CW.region ?_
          refine r_move rfl ?_
          refine r_move rfl ?_
          refine r_call rfl Try.call26 (by simp only [List.map_cons, List.map_nil, List.map_toArray, List.toList_toArray, upd_get, ev, Nat.reduceEqDiff, ↓reduceIte] <;> rfl) (Heard_c z _ (SH.prop H (i := 1) rfl)) ?_
          rintro _ w22_2 ⟨v22_2, g22_2, rfl, K⟩
          refine ⟨_, rfl, ?_⟩
          replace H := SH.call H K
          clear K
          try dsimp only [replC, List.cons_append, List.nil_append, List.append_nil] at H
          refine r_move rfl ?_
          refine r_extract rfl (by simp only [upd_get, ev, Nat.reduceEqDiff, ↓reduceIte] <;> rfl) (by simp only [List.getElem?_toArray, List.getElem?_cons_zero, List.getElem?_cons_succ] <;> rfl) ?_
          refine r_extract rfl (by simp only [upd_get, ev, Nat.reduceEqDiff, ↓reduceIte] <;> rfl) (by simp only [List.getElem?_toArray, List.getElem?_cons_zero, List.getElem?_cons_succ] <;> rfl) ?_
          refine r_assign rfl ?_
          refine r_assign rfl ?_
          refine LW.nil ?_
          refine thenE_norm ?_
          refine cut (K := K27) [1, 5, 6, 7, 9, 10, 11, 12, 13, 14, 15] (fun σ => ?_)
          simp only [setL, keepE, upd_get, ev, Nat.reduceEqDiff, ↓reduceIte]
          refine h27 _ _ ?_; clear h27; try clear K27
          refine CW.seq (fun K28 h28 => ?_)
          refine CW.region ?_
          refine r_move rfl ?_
          refine r_move rfl ?_
          refine r_call rfl Try.call38 (by simp only [List.map_cons, List.map_nil, List.map_toArray, List.toList_toArray, upd_get, ev, Nat.reduceEqDiff, ↓reduceIte] <;> rfl) (RHeard_c z _ hok' (SH.prop H (i := 2) rfl) (SH.propI H (i := 3) rfl)) ?_
          rintro _ w23_2 ⟨v23_2, g23_2, rfl, K⟩
          refine ⟨_, rfl, ?_⟩
          replace H := SH.call H K
          clear K
          try dsimp only [replC, List.cons_append, List.nil_append, List.append_nil] at H
          refine r_move rfl ?_
          refine r_extract rfl (by simp only [upd_get, ev, Nat.reduceEqDiff, ↓reduceIte] <;> rfl) (by simp only [List.getElem?_toArray, List.getElem?_cons_zero, List.getElem?_cons_succ] <;> rfl) ?_
          refine r_extract rfl (by simp only [upd_get, ev, Nat.reduceEqDiff, ↓reduceIte] <;> rfl) (by simp only [List.getElem?_toArray, List.getElem?_cons_zero, List.getElem?_cons_succ] <;> rfl) ?_
          refine r_assign rfl ?_
          refine r_assign rfl ?_
          refine LW.nil ?_
          refine thenE_norm ?_
          refine cut (K := K28) [1, 5, 6, 7, 9, 10, 11, 12, 13, 14, 15, 16, 17] (fun σ => ?_)
          simp only [setL, keepE, upd_get, ev, Nat.reduceEqDiff, ↓reduceIte]
          refine h28 _ _ ?_; clear h28; try clear K28
          refine CW.seq (fun K29 h29 => ?_)
          refine CW.region ?_
          refine r_move rfl ?_
          refine r_move rfl ?_
          refine r_neqB rfl Try.underlying4 rfl rfl ?_
          refine r_move rfl ?_
          refine LW.known (t := 118) (c := false) rfl (by simp) (fun hg24_4 => ?_)
          refine LW.want rfl rfl hg24_4 ?_
          refine r_loadA rfl Try.isAgg27 Try.sizeOf27 rfl (by first | exact SH.cells H (by (repeat first | exact At.here | apply At.there); done)) (by rfl) ?_
          refine LW.want rfl rfl hg24_4 ?_
          refine r_loadA rfl Try.isAgg27 Try.sizeOf27 rfl (by first | exact SH.cells H (by (repeat first | exact At.here | apply At.there); done)) (by rfl) ?_
          refine LW.want rfl rfl hg24_4 ?_
          refine r_call rfl Try.call25 (by simp only [List.map_cons, List.map_nil, List.map_toArray, List.toList_toArray, upd_get, ev, Nat.reduceEqDiff, ↓reduceIte] <;> rfl) (SameBatR_c ⟨_, _, ⟨_, _⟩, _, _⟩ ⟨_, _, ⟨_, _⟩, _, _⟩ _ (SH.rsO H (i := 4) rfl) (SH.rsR H (i := 6) rfl)) ?_
          rintro _ w24_6 ⟨rfl, X⟩
          refine ⟨_, rfl, ?_⟩
          replace H := SH.same H X
          clear X
          refine LW.want rfl rfl hg24_4 ?_
          refine r_not rfl rfl ?_
          refine r_pickF rfl rfl hg24_4 ?_
          refine r_move rfl ?_
          refine LW.known (t := 124) (c := false) rfl (by simp [sameBat]) (fun hg24_10 => ?_)
          refine LW.want rfl rfl hg24_10 ?_
          refine r_move rfl ?_
          refine LW.want rfl rfl hg24_10 ?_
          refine r_move rfl ?_
          refine LW.want rfl rfl hg24_10 ?_
          refine r_neq rfl rfl rfl ?_
          refine r_pickF rfl rfl hg24_10 ?_
          refine r_move rfl ?_
          refine LW.known (t := 129) (c := false) rfl (by simp) (fun hg24_15 => ?_)
          refine LW.want rfl rfl hg24_15 ?_
          refine r_move rfl ?_
          refine LW.want rfl rfl hg24_15 ?_
          refine r_move rfl ?_
          refine LW.want rfl rfl hg24_15 ?_
          refine r_call rfl Try.call39 (by simp only [List.map_cons, List.map_nil, List.map_toArray, List.toList_toArray, upd_get, ev, Nat.reduceEqDiff, ↓reduceIte] <;> rfl) (SameInts_c _ (SH.rsO H (i := 8) rfl) (SH.rsO H (i := 9) rfl)) ?_
          rintro _ w24_17 ⟨rfl, X⟩
          refine ⟨_, rfl, ?_⟩
          replace H := SH.same H X
          clear X
          refine LW.want rfl rfl hg24_15 ?_
          refine r_not rfl rfl ?_
          refine r_pickF rfl rfl hg24_15 ?_
          refine LW.nil ?_
          refine thenE_norm ?_
          refine cut (K := K29) [1, 5, 6, 7, 9, 134] (fun σ => ?_)
          simp only [setL, keepE, upd_get, ev, Nat.reduceEqDiff, ↓reduceIte]
          refine h29 _ _ ?_; clear h29; try clear K29
          refine CW.condF rfl (by simp) ?_
          refine CW.skip ?_
          refine blockE_norm ?_
          refine thenE_norm (h24 _ _ ?_); clear h24; try clear K24
          refine CW.region ?_
          refine r_move rfl ?_
          refine r_add rfl rfl rfl (wr_i64 (by omega) (by omega)) ?_
          refine r_assign rfl ?_
          refine LW.nil ?_
          refine thenE_norm ⟨rfl, ?_⟩
          exact ⟨(S'.done + 11 - (z + 1)).toNat, by omega, z + 1, rfl, by omega, by omega, rfl, SH.sel H [0, 1, 2, 3] (by decide) rfl⟩
        · try simp only [decide_eq_true_eq, decide_eq_false_iff_not, Bool.and_eq_true, Bool.or_eq_true, Bool.and_eq_false_iff, Bool.or_eq_false_iff, Bool.not_eq_true', Bool.not_eq_false', beq_iff_eq, bne_iff_ne, ne_eq, Decidable.not_not] at hc7
          refine CW.exit (thenE_exit (thenE_exit (blockE_hit ?_)))
          refine thenE_norm (h20 _ _ ?_); clear h20; try clear K20
          refine CW.seq (fun K30 h30 => ?_)
          refine CW.drawP [2] [] H (by dsimp only [pickC, nthC] <;> rfl) (by repeat first | exact List.Sublist.refl _ | exact List.nil_sublist _ | apply List.Sublist.cons_cons | apply List.Sublist.cons) (by kernel_rfl) rfl ?_
          clear H
          intro w26d H
          refine DL.take (i := 0) [] rfl (by kernel_rfl) (by kernel_rfl) (by kernel_rfl) (by kernel_rfl) rfl rfl (fun u H => x_move ) (SH.sub H (by repeat first | exact List.Sublist.refl _ | exact List.nil_sublist _ | apply List.Sublist.cons_cons | apply List.Sublist.cons)) ?_
          refine DL.take (i := 2) [] rfl (by kernel_rfl) (by kernel_rfl) (by kernel_rfl) (by kernel_rfl) rfl rfl (fun u H => x_move ) (SH.sub H (by repeat first | exact List.Sublist.refl _ | exact List.nil_sublist _ | apply List.Sublist.cons_cons | apply List.Sublist.cons)) ?_
          refine DL.take (i := 3) [] rfl (by kernel_rfl) (by kernel_rfl) (by kernel_rfl) (by kernel_rfl) rfl rfl (fun u H => x_nilCheck rfl) (SH.sub H (by repeat first | exact List.Sublist.refl _ | exact List.nil_sublist _ | apply List.Sublist.cons_cons | apply List.Sublist.cons)) ?_
          refine DL.take (i := 4) [] rfl (by kernel_rfl) (by kernel_rfl) (by kernel_rfl) (by kernel_rfl) rfl rfl (fun u H => x_fieldAddrO Try.underlying71 rfl Try.sizeOf3 (by decide) (show _ + 1 = _ from rfl) rfl) (SH.sub H (by repeat first | exact List.Sublist.refl _ | exact List.nil_sublist _ | apply List.Sublist.cons_cons | apply List.Sublist.cons)) ?_
          refine DL.take (i := 5) [] rfl (by kernel_rfl) (by kernel_rfl) (by kernel_rfl) (by kernel_rfl) rfl rfl (fun u H => x_load Try.isAgg3 rfl (RLnA.cellD (SH.prop H (i := 0) rfl))) (SH.sub H (by repeat first | exact List.Sublist.refl _ | exact List.nil_sublist _ | apply List.Sublist.cons_cons | apply List.Sublist.cons)) ?_
          refine DL.one (i := 1) (by kernel_rfl) rfl rfl ?_
          refine r_call rfl Try.call40 (by simp only [List.map_cons, List.map_nil, List.map_toArray, List.toList_toArray, upd_get, ev, Nat.reduceEqDiff, ↓reduceIte] <;> rfl) (DoneL_c _ (SH.prop H (i := 1) rfl)) ?_
          rintro _ _ ⟨rfl, rfl⟩
          refine ⟨_, rfl, ?_⟩
          refine LW.nil (thenE_norm ⟨fun _ => (SH.sub H (by repeat first | exact List.Sublist.refl _ | exact List.nil_sublist _ | apply List.Sublist.cons_cons | apply List.Sublist.cons)), ?_⟩)
          refine DL.take (i := 6) [] rfl (by kernel_rfl) (by kernel_rfl) (by kernel_rfl) (by kernel_rfl) rfl rfl (fun u H => x_neq rfl rfl) (SH.sub H (by repeat first | exact List.Sublist.refl _ | exact List.nil_sublist _ | apply List.Sublist.cons_cons | apply List.Sublist.cons)) ?_
          refine DL.done (by kernel_rfl) ?_
          refine thenE_norm ?_
          refine cut (K := K30) [1, 5, 6, 7, 141] (fun σ => ?_)
          simp only [setL, keepE, upd_get, ev, Nat.reduceEqDiff, ↓reduceIte]
          refine h30 _ _ ?_; clear h30; try clear K30
          refine CW.condF rfl (by simp) ?_
          refine CW.skip ?_
          refine blockE_norm ?_
          refine thenE_norm (h14 _ _ ?_); clear h14; try clear K14
          refine CW.region ?_
          refine r_move rfl ?_
          refine r_add rfl rfl rfl (wr_i64 (by omega) (by omega)) ?_
          refine r_assign rfl ?_
          refine LW.nil ?_
          refine thenE_norm ⟨rfl, ?_⟩
          exact ⟨acts.length - (i + 1), by omega, i + 1, S', raws', _, _, _, rfl, by omega, rfl, hSl', SH.sel H [0, 1, 2, 3] (by decide) rfl⟩
      · try simp only [decide_eq_true_eq, decide_eq_false_iff_not, Bool.and_eq_true, Bool.or_eq_true, Bool.and_eq_false_iff, Bool.or_eq_false_iff, Bool.not_eq_true', Bool.not_eq_false', beq_iff_eq, bne_iff_ne, ne_eq, Decidable.not_not] at hc4
        refine CW.exit (thenE_exit (thenE_exit (blockE_hit ?_)))
        refine thenE_norm (h10 _ _ ?_); clear h10; try clear K10
        refine CW.seq (fun K31 h31 => ?_)
        refine CW.region ?_
        refine r_call rfl Try.call22 (by simp only [List.map_cons, List.map_nil, List.map_toArray, List.toList_toArray, upd_get, ev, Nat.reduceEqDiff, ↓reduceIte] <;> rfl) (awake15_c _) ?_
        rintro _ w28_0 ⟨rfl, X⟩
        refine ⟨_, rfl, ?_⟩
        replace H := SH.same H X
        clear X
        refine r_assign rfl ?_
        refine LW.nil ?_
        refine thenE_norm (h31 _ _ ?_); clear h31; try clear K31
        refine CW.ret (ret1 Try.results7 (by simp only [upd_get, ev, Nat.reduceEqDiff, ↓reduceIte]; rfl) ?_)
        exact ⟨rfl, H.ext⟩
    · refine CW.region ?_
      refine r_move rfl ?_
      refine r_call rfl Try.call21 (by simp only [List.map_cons, List.map_nil, List.map_toArray, List.toList_toArray, upd_get, ev, Nat.reduceEqDiff, ↓reduceIte] <;> rfl) (LrnNewZ_c n _ hn) ?_
      rintro _ _ ⟨rfl, rfl⟩
      refine ⟨_, rfl, ?_⟩
      refine r_move rfl ?_
      refine r_call rfl Try.call33 (by simp only [List.map_cons, List.map_nil, List.map_toArray, List.toList_toArray, upd_get, ev, Nat.reduceEqDiff, ↓reduceIte] <;> rfl) (RLnNewZ_c n _ hn) ?_
      rintro _ _ ⟨rfl, rfl⟩
      refine ⟨_, rfl, ?_⟩
      refine r_assign rfl ?_
      refine r_assign rfl ?_
      refine LW.nil ?_
      refine thenE_norm ?_
      refine cut (K := K5) [1, 5, 6] (fun σ => ?_)
      simp only [setL, keepE, upd_get, ev, Nat.reduceEqDiff, ↓reduceIte]
      refine h5 _ _ ?_; clear h5; try clear K5
      refine CW.seq (fun K32 h32 => ?_)
      refine CW.seq (fun K33 h33 => ?_)
      refine CW.region ?_
      refine r_move rfl ?_
      refine r_eqlP rfl Try.underlying42 rfl rfl ?_
      refine r_move rfl ?_
      refine r_eqlP rfl Try.underlying64 rfl rfl ?_
      refine r_neqB rfl Try.underlying4 rfl rfl ?_
      refine LW.nil ?_
      refine thenE_norm (h33 _ _ ?_); clear h33; try clear K33
      refine CW.condF rfl (by first | rfl | (simp only [decide_eq_true_eq, decide_eq_false_iff_not, Bool.and_eq_true, Bool.or_eq_true, Bool.and_eq_false_iff, Bool.or_eq_false_iff, Bool.not_eq_true', Bool.not_eq_false', beq_iff_eq, bne_iff_ne]; omega) | simp_all) ?_
      refine CW.skip ?_
      refine thenE_norm (h32 _ _ ?_); clear h32; try clear K32
      refine CW.seq (fun K34 h34 => ?_)
      refine CW.seq (fun K35 h35 => ?_)
      refine CW.region ?_
      refine r_move rfl ?_
      refine r_eqlP rfl Try.underlying64 rfl rfl ?_
      refine LW.nil ?_
      refine thenE_norm (h35 _ _ ?_); clear h35; try clear K35
      refine CW.condT rfl (by first | rfl | (simp only [decide_eq_true_eq, decide_eq_false_iff_not, Bool.and_eq_true, Bool.or_eq_true, Bool.and_eq_false_iff, Bool.or_eq_false_iff, Bool.not_eq_true', Bool.not_eq_false', beq_iff_eq, bne_iff_ne]; omega) | simp_all) ?_
      refine CW.seq (fun K36 h36 => ?_)
      refine CW.region ?_
      refine r_call rfl Try.call22 (by simp only [List.map_cons, List.map_nil, List.map_toArray, List.toList_toArray, upd_get, ev, Nat.reduceEqDiff, ↓reduceIte] <;> rfl) (awake15_c _) ?_
      rintro _ w7_0 ⟨rfl, X⟩
      refine ⟨_, rfl, ?_⟩
      replace H := SH.same H X
      clear X
      refine r_assign rfl ?_
      refine LW.nil ?_
      refine thenE_norm ?_
      refine cut (K := K36) [4] (fun σ => ?_)
      simp only [setL, keepE, upd_get, ev, Nat.reduceEqDiff, ↓reduceIte]
      refine h36 _ _ ?_; clear h36; try clear K36
      refine CW.ret (thenE_ret (ret1 Try.results7 (by simp only [upd_get, ev, Nat.reduceEqDiff, ↓reduceIte]; rfl) ?_))
      exact ⟨rfl, H.ext⟩
end Go.Proofs.Ytalieccfdmokmaa
