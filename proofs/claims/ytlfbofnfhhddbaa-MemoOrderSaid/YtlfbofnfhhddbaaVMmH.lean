/-
  The walks of layer 9's laws, the first part: answers by numbers; MemoRights; MemoRuns.
-/
import Derived.Test.YtlfbofnfhhddbaaVMmG
import Derived.Test.YtlfbofnfhhddbaaVRpO
namespace Go.Proofs.Ytlfbofnfhhddbaa
set_option linter.unusedSimpArgs false
set_option linter.unusedVariables false
set_option maxRecDepth 20000
open Go.V Go.RowKit Go.ChangeShapes Go.WideShapes

theorem Answer_c {F : Nat → Prop} {v : Value} {ns : List UInt8} (c s : Int) (w : World) (hv : Rs F w v ns) (h0 : 0 ≤ c) (h1 : c < 256) (k0 : 0 ≤ s) (k1 : s < 256) :
    Calls Try.prog 62 #[.int .u8 c, .int .u8 s, v] w fun e w' => ∃ (x y z : Int) (u : Value) (gs : List Gr) (g : Option Nat), e = .returned (agg (⟨c % 8, 1 + s % 40, ⟨x, y, z, u⟩⟩ : Ans)) ∧ mayRep x y z gs = true ∧ smallG gs ∧ SH Non Non w w' [.O 61 u gs g] := by
  have H := (SH.start w).arg hv
  refine calls_of_CW Try.func62 rfl Try.ntmps62 (Nat.le_of_ble_eq_true rfl) ?_
  simp only [argE, argFrom, Nat.reduceAdd]
  refine CW.seq (fun K1 h1 => ?_)
  refine CW.region ?_
  refine s_alloc (cs := [.int .i64 0, .int .i64 0, .int .i64 0, .int .i64 0, .int .i64 0, .slice none 0 0]) H rfl Try.zeroValue66 rfl ?_
  clear H
  intro b0_0 w0_0 H
  try dsimp only [replC, List.cons_append, List.nil_append, List.append_nil, agg, cellsL, Value.cells, List.toList_toArray, List.set_cons_zero, List.set_cons_succ, spliceL, List.take_succ_cons, List.take_zero, List.drop_succ_cons, List.drop_zero, List.length_cons, List.length_nil, Nat.reduceAdd, Row.cells, Gr.L, Rep.L, Mem.L, Ans.L] at H
  refine LW.nil ?_
  refine thenE_norm (h1 _ _ ?_); clear h1; try clear K1
  refine CW.seq (fun K2 h2 => ?_)
  refine CW.region ?_
  refine r_move rfl ?_
  refine r_convI rfl Try.underlying5 Try.underlying3 rfl (wr_i64 (by omega) (by omega)) ?_
  refine r_rem rfl rfl rfl (by omega) (by omega) (wr_i64 (by omega) (by omega)) ?_
  refine r_move rfl ?_
  refine r_convI rfl Try.underlying5 Try.underlying3 rfl (wr_i64 (by omega) (by omega)) ?_
  refine r_rem rfl rfl rfl (by omega) (by omega) (wr_i64 (by omega) (by omega)) ?_
  refine r_add rfl rfl rfl (wr_i64 (by omega) (by omega)) ?_
  refine r_move rfl ?_
  refine r_call rfl Try.call40 (by simp only [List.map_cons, List.map_nil, List.map_toArray, List.toList_toArray, upd_get, ev, Nat.reduceEqDiff, ↓reduceIte] <;> rfl) (Reply_c _ (by first | assumption | exact SH.rsR H (by (repeat first | exact At.here | apply At.there); done) | exact SH.rsO H (by (repeat first | exact At.here | apply At.there); done) | exact (Rs.nil : Rs Non _ _ _))) ?_
  rintro _ w1_8 ⟨c1_8, s1_8, a1_8, v1_8, gs1_8, g1_8, rfl, hm1_8, hsm1_8, K⟩
  refine ⟨_, rfl, ?_⟩
  replace H := SH.call H K
  clear K
  try dsimp only [replC, List.cons_append, List.nil_append, List.append_nil] at H
  refine r_buildQ rfl Try.underlying66 Try.zeroValue66 rfl (pl := [(0, 1), (1, 1), (2, 4)]) (by intro w; simp [go_sem]) (qs := [(0, [_]), (1, [_]), (2, [_, _, _, _])]) (cs := [_, _, _, _, _, _]) ⟨rfl, cells_one (by simp only [upd_get, ev, Nat.reduceEqDiff, ↓reduceIte] <;> rfl) (by first | rfl | exact Rs.oneC (by first | assumption | exact SH.rsR H (by (repeat first | exact At.here | apply At.there); done) | exact SH.rsO H (by (repeat first | exact At.here | apply At.there); done) | exact (Rs.nil : Rs Non _ _ _))), rfl, cells_one (by simp only [upd_get, ev, Nat.reduceEqDiff, ↓reduceIte] <;> rfl) (by first | rfl | exact Rs.oneC (by first | assumption | exact SH.rsR H (by (repeat first | exact At.here | apply At.there); done) | exact SH.rsO H (by (repeat first | exact At.here | apply At.there); done) | exact (Rs.nil : Rs Non _ _ _))), rfl, (by simp only [upd_get, ev, Nat.reduceEqDiff, ↓reduceIte, cellsL, agg, List.toList_toArray, Row.cells, Gr.L, Rep.L, Mem.L, Ans.L] <;> rfl), trivial⟩ rfl ?_
  refine s_storeA H Try.sizeOf66 rfl (by simp only [upd_get, ev, Nat.reduceEqDiff, ↓reduceIte] <;> rfl) (by simp only [cellsL, agg, List.toList_toArray, Row.cells, Gr.L, Rep.L, Mem.L, Ans.L] <;> rfl) (by rfl) (by first | rfl | assumption | exact Rs.oneC (by first | assumption | exact SH.rsR H (by (repeat first | exact At.here | apply At.there); done) | exact SH.rsO H (by (repeat first | exact At.here | apply At.there); done) | exact (Rs.nil : Rs Non _ _ _)) | (simp only [List.all_cons, List.all_nil, Bool.and_true, Bool.and_eq_true, Row.cells, Gr.L, Rep.L, Mem.L, Ans.L]; (repeat' constructor) <;> first | rfl | assumption | exact Rs.oneC (by first | assumption | exact SH.rsR H (by (repeat first | exact At.here | apply At.there); done) | exact SH.rsO H (by (repeat first | exact At.here | apply At.there); done) | exact (Rs.nil : Rs Non _ _ _)))) (by (repeat first | exact At.here | apply At.there); done) (by first | (simp; done) | decide | (show _ ≤ _; decide)) ?_
  clear H
  intro w1_10 H
  try dsimp only [replC, List.cons_append, List.nil_append, List.append_nil, agg, cellsL, Value.cells, List.toList_toArray, List.set_cons_zero, List.set_cons_succ, spliceL, List.take_succ_cons, List.take_zero, List.drop_succ_cons, List.drop_zero, List.length_cons, List.length_nil, Nat.reduceAdd, Row.cells, Gr.L, Rep.L, Mem.L, Ans.L] at H
  refine LW.nil ?_
  refine thenE_norm ?_
  refine cut (K := K2) [6] (fun σ => ?_)
  simp only [setL, keepE, upd_get, ev, Nat.reduceEqDiff, ↓reduceIte]
  refine h2 _ _ ?_; clear h2; try clear K2
  refine CW.ret (retC1 Try.results62 (by simp only [upd_get, ev, Nat.reduceEqDiff, ↓reduceIte] <;> rfl) Try.isAgg66 Try.sizeOf66 (by exact SH.cells H (by (repeat first | exact At.here | apply At.there); done)) (by rfl) ?_)
  exact ⟨_, _, _, _, _, _, rfl, hm1_8, hsm1_8, SH.give H (by repeat first | exact List.Sublist.refl _ | exact List.nil_sublist _ | apply List.Sublist.cons_cons | apply List.Sublist.cons) ⟨trivial, trivial⟩⟩
theorem answer_may {c s x y z : Int} {u : Value} {gs : List Gr} (h : mayRep x y z gs = true) (k0 : 0 ≤ c) (s0 : 0 ≤ s) : mayN (mmA ⟨c % 8, 1 + s % 40, ⟨x, y, z, u⟩⟩ gs) = true := by
  have e : mayN (mmA ⟨c % 8, 1 + s % 40, ⟨x, y, z, u⟩⟩ gs) = (decide (0 ≤ c % 8) && decide (c % 8 < 8) && (decide (1 ≤ 1 + s % 40) && decide (1 + s % 40 ≤ 2305843009213693952)) && mayRep x y z gs) := rfl
  rw [e, h, decide_eq_true (show 0 ≤ c % 8 by omega), decide_eq_true (show c % 8 < 8 by omega), decide_eq_true (show 1 ≤ 1 + s % 40 by omega), decide_eq_true (show 1 + s % 40 ≤ 2305843009213693952 by omega)]; rfl
theorem read_ms {F : Nat → Prop} {w : World} {raws : List Mem} (h : ∀ r ∈ raws, ∃ gs : List Gr, Rs F w r.reply.held gs ∧ smallG gs) : ∃ ms, MmsA F raws ms w ∧ smallMs ms := by
  obtain ⟨ms, hT⟩ := All2.choose (T := fun (r : Mem) (m : Mm) => MmR F w r m ∧ smallG m.gs) (fun r hr => by
    obtain ⟨gs, h1, h2⟩ := h r hr
    exact ⟨⟨r.client, r.seq, r.reply.code, r.reply.session, r.reply.ahead, gs⟩, ⟨rfl, rfl, rfl, rfl, rfl, h1⟩, h2⟩)
  refine ⟨ms, All2.mono (fun _ _ q => q.1) hT, fun m hm => ?_⟩
  obtain ⟨i, hi⟩ := List.mem_iff_getElem?.1 hm
  obtain ⟨a, ha, hab⟩ := All2.get' hT hi
  exact hab.2
set_option maxHeartbeats 4000000 in
theorem MemoRights_c {F : Nat → Prop} {v : Value} {raws : List Mem} (w : World) (hv : Rs F w v raws) (hg : ∀ r ∈ raws, ∃ gs : List Gr, Rs (Old w) w r.reply.held gs ∧ smallG gs) :
    Calls Try.prog 13 #[v] w fun e w' => e = .returned (.bool true) ∧ Ext0 w w' := by
  obtain ⟨ms, hm, hs⟩ := read_ms hg
  have H := (SH.start w).arg hv
  have h63 := hv.len63
  refine calls_of_CW Try.func13 rfl Try.ntmps13 (Nat.le_of_ble_eq_true rfl) ?_
  simp only [argE, argFrom, Nat.reduceAdd]
  refine CW.seq (fun K1 h1 => ?_)
  refine CW.region ?_
  refine r_assign rfl ?_
  refine LW.nil ?_
  refine thenE_norm (h1 _ _ ?_); clear h1; try clear K1
  refine CW.seq (fun K2 h2 => ?_)
  refine CW.seq (fun K3 h3 => ?_)
  refine CW.region ?_
  refine r_move rfl ?_
  first
    | refine r_lenV rfl Try.underlying81 (by simp only [upd_get, ev, Nat.reduceEqDiff, ↓reduceIte] <;> rfl) (by first | assumption | exact SH.rsR H (by (repeat first | exact At.here | apply At.there); done) | exact SH.rsO H (by (repeat first | exact At.here | apply At.there); done) | exact (Rs.nil : Rs Non _ _ _)) ?_
    | refine r_len rfl Try.underlying81 rfl ?_
  refine r_gtr rfl rfl rfl ?_
  refine LW.nil ?_
  refine thenE_norm (h3 _ _ ?_); clear h3; try clear K3
  refine CW.cond rfl (fun hc1 => ?_) (fun hc1 => ?_)
  · try simp only [decide_eq_true_eq, decide_eq_false_iff_not, Bool.and_eq_true, Bool.or_eq_true, Bool.and_eq_false_iff, Bool.or_eq_false_iff, Bool.not_eq_true', Bool.not_eq_false', beq_iff_eq, bne_iff_ne, ne_eq, Decidable.not_not] at hc1
    refine CW.seq (fun K4 h4 => ?_)
    refine CW.region ?_
    refine r_call rfl Try.call59 (by simp only [List.map_cons, List.map_nil, List.map_toArray, List.toList_toArray, upd_get, ev, Nat.reduceEqDiff, ↓reduceIte] <;> rfl) (awake9_c _) ?_
    rintro _ w2_0 ⟨rfl, X⟩
    refine ⟨_, rfl, ?_⟩
    replace H := SH.same H X
    clear X
    refine r_assign rfl ?_
    refine LW.nil ?_
    refine thenE_norm (h4 _ _ ?_); clear h4; try clear K4
    refine CW.ret (thenE_ret (ret1 Try.results13 (by simp only [upd_get, ev, Nat.reduceEqDiff, ↓reduceIte]; rfl) ?_))
    exact ⟨rfl, H.ext⟩
  · try simp only [decide_eq_true_eq, decide_eq_false_iff_not, Bool.and_eq_true, Bool.or_eq_true, Bool.and_eq_false_iff, Bool.or_eq_false_iff, Bool.not_eq_true', Bool.not_eq_false', beq_iff_eq, bne_iff_ne, ne_eq, Decidable.not_not] at hc1
    refine CW.skip ?_
    refine thenE_norm (h2 _ _ ?_); clear h2; try clear K2
    refine CW.seq (fun K5 h5 => ?_)
    refine CW.seq (fun K6 h6 => ?_)
    refine CW.region ?_
    refine r_assign rfl ?_
    refine LW.nil ?_
    refine thenE_norm (h6 _ _ ?_); clear h6; try clear K6
    refine CW.block ?_
    refine CW.loopR [0] [3] (fun m vs w' => ∃ i : Nat, vs = [.int .i64 i] ∧ i ≤ raws.length ∧ m = raws.length - i ∧ SH Non Any w w' [.R (Old w) v raws]) (raws.length) ?_ ?_
    · exact ⟨0, rfl, by omega, by omega, H⟩
    try clear H
    rintro n1 vs1 wL1 σ ⟨i, rfl, hi, rfl, H⟩
    simp only [setL, keepE, upd_get, ev, Nat.reduceEqDiff, ↓reduceIte]
    refine CW.seq (fun K7 h7 => ?_)
    refine CW.seq (fun K8 h8 => ?_)
    refine CW.region ?_
    refine r_move rfl ?_
    refine r_move rfl ?_
    first
      | refine r_lenV rfl Try.underlying81 (by simp only [upd_get, ev, Nat.reduceEqDiff, ↓reduceIte] <;> rfl) (by first | assumption | exact SH.rsR H (by (repeat first | exact At.here | apply At.there); done) | exact SH.rsO H (by (repeat first | exact At.here | apply At.there); done) | exact (Rs.nil : Rs Non _ _ _)) ?_
      | refine r_len rfl Try.underlying81 rfl ?_
    refine r_lss rfl rfl rfl ?_
    refine LW.nil ?_
    refine thenE_norm (h8 _ _ ?_); clear h8; try clear K8
    refine CW.cond rfl (fun hc2 => ?_) (fun hc2 => ?_)
    · try simp only [decide_eq_true_eq, decide_eq_false_iff_not, Bool.and_eq_true, Bool.or_eq_true, Bool.and_eq_false_iff, Bool.or_eq_false_iff, Bool.not_eq_true', Bool.not_eq_false', beq_iff_eq, bne_iff_ne, ne_eq, Decidable.not_not] at hc2
      refine CW.skip ?_
      refine thenE_norm (h7 _ _ ?_); clear h7; try clear K7
      refine CW.seq (fun K9 h9 => ?_)
      refine CW.block ?_
      refine CW.seq (fun K10 h10 => ?_)
      obtain ⟨x, hx⟩ := get_of_lt (show i < raws.length by omega)
      obtain ⟨m, hmx, hrx⟩ := All2.get hm hx
      obtain ⟨x1, x2, ⟨x3, x4, x5, x6⟩⟩ := x
      have hx6 : Rs (Old w) w x6 m.gs := hrx.2.2.2.2.2
      refine CW.region ?_
      refine r_move rfl ?_
      refine r_move rfl ?_
      refine r_indexAddrV rfl Try.underlying81 (by simp only [upd_get, ev, Nat.reduceEqDiff, ↓reduceIte] <;> rfl) rfl (by first | assumption | exact SH.rsR H (by (repeat first | exact At.here | apply At.there); done) | exact SH.rsO H (by (repeat first | exact At.here | apply At.there); done) | exact (Rs.nil : Rs Non _ _ _)) (by exact Try.sizeOf80) (by omega) (by omega) ?_
      refine r_fieldAddrO rfl Try.underlying80 rfl Try.sizeOf50 (by decide) (show _ + 2 = _ from rfl) rfl ?_
      refine r_fieldAddrO rfl Try.underlying50 rfl Try.sizeOf48 (by decide) (show _ + 3 = _ from rfl) rfl ?_
      refine r_load rfl Try.isAgg48 rfl (by first | exact Rs.cell (o := 5) (by first | assumption | exact SH.rsR H (by (repeat first | exact At.here | apply At.there); done) | exact SH.rsO H (by (repeat first | exact At.here | apply At.there); done) | exact (Rs.nil : Rs Non _ _ _)) (by assumption) (by rfl) | exact Rs.cell0 (by first | assumption | exact SH.rsR H (by (repeat first | exact At.here | apply At.there); done) | exact SH.rsO H (by (repeat first | exact At.here | apply At.there); done) | exact (Rs.nil : Rs Non _ _ _)) (by assumption) (by rfl) | assumption) ?_
      first
        | refine r_lenV rfl Try.underlying48 (by simp only [upd_get, ev, Nat.reduceEqDiff, ↓reduceIte] <;> rfl) (hx6.up0 (SH.ext H)) ?_
        | refine r_len rfl Try.underlying48 rfl ?_
      refine r_gtr rfl rfl rfl ?_
      refine LW.nil ?_
      refine thenE_norm ?_
      refine cut (K := K10) [0, 3, 21] (fun σ => ?_)
      simp only [setL, keepE, upd_get, ev, Nat.reduceEqDiff, ↓reduceIte]
      refine h10 _ _ ?_; clear h10; try clear K10
      refine CW.cond rfl (fun hc3 => ?_) (fun hc3 => ?_)
      · try simp only [decide_eq_true_eq, decide_eq_false_iff_not, Bool.and_eq_true, Bool.or_eq_true, Bool.and_eq_false_iff, Bool.or_eq_false_iff, Bool.not_eq_true', Bool.not_eq_false', beq_iff_eq, bne_iff_ne, ne_eq, Decidable.not_not] at hc3
        refine CW.seq (fun K11 h11 => ?_)
        refine CW.region ?_
        refine r_call rfl Try.call59 (by simp only [List.map_cons, List.map_nil, List.map_toArray, List.toList_toArray, upd_get, ev, Nat.reduceEqDiff, ↓reduceIte] <;> rfl) (awake9_c _) ?_
        rintro _ w7_0 ⟨rfl, X⟩
        refine ⟨_, rfl, ?_⟩
        replace H := SH.same H X
        clear X
        refine r_assign rfl ?_
        refine LW.nil ?_
        refine thenE_norm (h11 _ _ ?_); clear h11; try clear K11
        refine CW.ret (blockE_ret (thenE_ret (thenE_ret (blockE_ret (thenE_ret (ret1 Try.results13 (by simp only [upd_get, ev, Nat.reduceEqDiff, ↓reduceIte]; rfl) ?_))))))
        exact ⟨rfl, H.ext⟩
      · try simp only [decide_eq_true_eq, decide_eq_false_iff_not, Bool.and_eq_true, Bool.or_eq_true, Bool.and_eq_false_iff, Bool.or_eq_false_iff, Bool.not_eq_true', Bool.not_eq_false', beq_iff_eq, bne_iff_ne, ne_eq, Decidable.not_not] at hc3
        refine CW.skip ?_
        refine blockE_norm ?_
        refine thenE_norm (h9 _ _ ?_); clear h9; try clear K9
        refine CW.region ?_
        refine r_move rfl ?_
        refine r_add rfl rfl rfl (wr_i64 (by omega) (by omega)) ?_
        refine r_assign rfl ?_
        refine LW.nil ?_
        refine thenE_norm ⟨rfl, ?_⟩
        exact ⟨_, by omega, i + 1, rfl, by omega, rfl, H⟩
    · try simp only [decide_eq_true_eq, decide_eq_false_iff_not, Bool.and_eq_true, Bool.or_eq_true, Bool.and_eq_false_iff, Bool.or_eq_false_iff, Bool.not_eq_true', Bool.not_eq_false', beq_iff_eq, bne_iff_ne, ne_eq, Decidable.not_not] at hc2
      refine CW.exit (thenE_exit (thenE_exit (blockE_hit ?_)))
      refine thenE_norm (h5 _ _ ?_); clear h5; try clear K5
      refine CW.seq (fun K12 h12 => ?_)
      refine CW.region ?_
      refine r_move rfl ?_
      refine r_call rfl Try.call60 (by simp only [List.map_cons, List.map_nil, List.map_toArray, List.toList_toArray, upd_get, ev, Nat.reduceEqDiff, ↓reduceIte] <;> rfl) (Right_c _ (by first | assumption | exact SH.rsR H (by (repeat first | exact At.here | apply At.there); done) | exact SH.rsO H (by (repeat first | exact At.here | apply At.there); done) | exact (Rs.nil : Rs Non _ _ _)) (hm.up0 (SH.ext H)) hs) ?_
      rintro _ w8_1 ⟨rfl, X⟩
      refine ⟨_, rfl, ?_⟩
      replace H := SH.same H X
      clear X
      refine r_move rfl ?_
      refine r_call rfl Try.call61 (by simp only [List.map_cons, List.map_nil, List.map_toArray, List.toList_toArray, upd_get, ev, Nat.reduceEqDiff, ↓reduceIte] <;> rfl) (RightMemos_c _ (by first | assumption | exact SH.rsR H (by (repeat first | exact At.here | apply At.there); done) | exact SH.rsO H (by (repeat first | exact At.here | apply At.there); done) | exact (Rs.nil : Rs Non _ _ _)) (hm.up0 (SH.ext H))) ?_
      rintro _ w8_3 ⟨rfl, X⟩
      refine ⟨_, rfl, ?_⟩
      replace H := SH.same H X
      clear X
      refine r_eqlB rfl Try.underlying4 rfl rfl ?_
      refine r_move rfl ?_
      refine LW.known (t := 28) (c := true) rfl (by simp) (fun hg8_6 => ?_)
      refine LW.want rfl rfl hg8_6 ?_
      refine r_call rfl Try.call59 (by simp only [List.map_cons, List.map_nil, List.map_toArray, List.toList_toArray, upd_get, ev, Nat.reduceEqDiff, ↓reduceIte] <;> rfl) (awake9_c _) ?_
      rintro _ w8_6 ⟨rfl, X⟩
      refine ⟨_, rfl, ?_⟩
      replace H := SH.same H X
      clear X
      refine r_pickT rfl rfl hg8_6 ?_
      refine r_assign rfl ?_
      refine LW.nil ?_
      refine thenE_norm ?_
      refine cut (K := K12) [2] (fun σ => ?_)
      simp only [setL, keepE, upd_get, ev, Nat.reduceEqDiff, ↓reduceIte]
      refine h12 _ _ ?_; clear h12; try clear K12
      refine CW.ret (ret1 Try.results13 (by simp only [upd_get, ev, Nat.reduceEqDiff, ↓reduceIte]; rfl) ?_)
      exact ⟨rfl, H.ext⟩
set_option maxHeartbeats 8000000 in
theorem MemoRuns_c {F : Nat → Prop} {v : Value} {al : List Ans} (c q : Int) (w : World) (hv : Rs F w v al) (hg : ∀ a ∈ al, ∃ gs : List Gr, Rs (Old w) w a.reply.held gs ∧ smallG gs) :
    Calls Try.prog 15 #[v, .int .i64 c, .int .i64 q] w fun e w' => e = .returned (.bool true) ∧ Ext0 w w' := by
  have H := (SH.start w).arg hv
  have h63 := hv.len63
  refine calls_of_CW Try.func15 rfl Try.ntmps15 (Nat.le_of_ble_eq_true rfl) ?_
  simp only [argE, argFrom, Nat.reduceAdd]
  refine CW.seq (fun K1 h1 => ?_)
  refine CW.region ?_
  refine r_assign rfl ?_
  refine LW.nil ?_
  refine thenE_norm (h1 _ _ ?_); clear h1; try clear K1
  refine CW.seq (fun K2 h2 => ?_)
  refine CW.seq (fun K3 h3 => ?_)
  refine CW.region ?_
  refine r_move rfl ?_
  first
    | refine r_lenV rfl Try.underlying87 (by simp only [upd_get, ev, Nat.reduceEqDiff, ↓reduceIte] <;> rfl) (by first | assumption | exact SH.rsR H (by (repeat first | exact At.here | apply At.there); done) | exact SH.rsO H (by (repeat first | exact At.here | apply At.there); done) | exact (Rs.nil : Rs Non _ _ _)) ?_
    | refine r_len rfl Try.underlying87 rfl ?_
  refine r_gtr rfl rfl rfl ?_
  refine LW.nil ?_
  refine thenE_norm (h3 _ _ ?_); clear h3; try clear K3
  refine CW.cond rfl (fun hc1 => ?_) (fun hc1 => ?_)
  · try simp only [decide_eq_true_eq, decide_eq_false_iff_not, Bool.and_eq_true, Bool.or_eq_true, Bool.and_eq_false_iff, Bool.or_eq_false_iff, Bool.not_eq_true', Bool.not_eq_false', beq_iff_eq, bne_iff_ne, ne_eq, Decidable.not_not] at hc1
    refine CW.seq (fun K4 h4 => ?_)
    refine CW.region ?_
    refine r_call rfl Try.call59 (by simp only [List.map_cons, List.map_nil, List.map_toArray, List.toList_toArray, upd_get, ev, Nat.reduceEqDiff, ↓reduceIte] <;> rfl) (awake9_c _) ?_
    rintro _ w2_0 ⟨rfl, X⟩
    refine ⟨_, rfl, ?_⟩
    replace H := SH.same H X
    clear X
    refine r_assign rfl ?_
    refine LW.nil ?_
    refine thenE_norm (h4 _ _ ?_); clear h4; try clear K4
    refine CW.ret (thenE_ret (ret1 Try.results15 (by simp only [upd_get, ev, Nat.reduceEqDiff, ↓reduceIte]; rfl) ?_))
    exact ⟨rfl, H.ext⟩
  · try simp only [decide_eq_true_eq, decide_eq_false_iff_not, Bool.and_eq_true, Bool.or_eq_true, Bool.and_eq_false_iff, Bool.or_eq_false_iff, Bool.not_eq_true', Bool.not_eq_false', beq_iff_eq, bne_iff_ne, ne_eq, Decidable.not_not] at hc1
    refine CW.skip ?_
    refine thenE_norm (h2 _ _ ?_); clear h2; try clear K2
    refine CW.seq (fun K5 h5 => ?_)
    refine CW.region ?_
    refine r_assign rfl ?_
    refine LW.nil ?_
    refine thenE_norm (h5 _ _ ?_); clear h5; try clear K5
    refine CW.seq (fun K6 h6 => ?_)
    refine CW.seq (fun K7 h7 => ?_)
    refine CW.region ?_
    refine r_assign rfl ?_
    refine LW.nil ?_
    refine thenE_norm (h7 _ _ ?_); clear h7; try clear K7
    refine CW.block ?_
    refine CW.loopR [0, 1, 2] [7, 8] (fun m vs w' => ∃ (i : Nat) (u : Value) (raws : List Mem) (ms : List Mm) (g : Option Nat), vs = [u, .int .i64 i] ∧ i ≤ al.length ∧ m = al.length - i ∧ ms.length ≤ i ∧ rightN ms = true ∧ MmsA (Old w) raws ms w ∧ SH Non Any w w' [.R (Old w) v al, .O 80 u raws g]) (al.length) ?_ ?_
    · exact ⟨0, .slice none 0 0, [], [], none, rfl, by omega, by omega, by simp, rfl, trivial, H.addO (α := Mem) 80⟩
    try clear H
    rintro n1 vs1 wL1 σ ⟨i, u, raws, ms, g, rfl, hi, rfl, hml, hr, hm, H⟩
    simp only [setL, keepE, upd_get, ev, Nat.reduceEqDiff, ↓reduceIte]
    have l1 := All2.len hm
    have hup := all2_up mmr_key hm (right_up hr)
    refine CW.seq (fun K8 h8 => ?_)
    refine CW.seq (fun K9 h9 => ?_)
    refine CW.region ?_
    refine r_move rfl ?_
    refine r_move rfl ?_
    first
      | refine r_lenV rfl Try.underlying87 (by simp only [upd_get, ev, Nat.reduceEqDiff, ↓reduceIte] <;> rfl) (by first | assumption | exact SH.rsR H (by (repeat first | exact At.here | apply At.there); done) | exact SH.rsO H (by (repeat first | exact At.here | apply At.there); done) | exact (Rs.nil : Rs Non _ _ _)) ?_
      | refine r_len rfl Try.underlying87 rfl ?_
    refine r_lss rfl rfl rfl ?_
    refine LW.nil ?_
    refine thenE_norm (h9 _ _ ?_); clear h9; try clear K9
    refine CW.cond rfl (fun hc2 => ?_) (fun hc2 => ?_)
    · try simp only [decide_eq_true_eq, decide_eq_false_iff_not, Bool.and_eq_true, Bool.or_eq_true, Bool.and_eq_false_iff, Bool.or_eq_false_iff, Bool.not_eq_true', Bool.not_eq_false', beq_iff_eq, bne_iff_ne, ne_eq, Decidable.not_not] at hc2
      refine CW.skip ?_
      refine thenE_norm (h8 _ _ ?_); clear h8; try clear K8
      refine CW.seq (fun K10 h10 => ?_)
      refine CW.block ?_
      refine CW.seq (fun K11 h11 => ?_)
      refine CW.seq (fun K12 h12 => ?_)
      obtain ⟨a, ha⟩ := get_of_lt (show i < al.length by omega)
      obtain ⟨gs, hgr, hsg⟩ := hg a (List.mem_of_getElem? ha)
      obtain ⟨a1, a2, ⟨a3, a4, a5, a6⟩⟩ := a
      dsimp only at hgr
      have ho6 : oneC a6 = true := Rs.oneC hgr
      refine CW.region ?_
      refine r_move rfl ?_
      refine r_move rfl ?_
      refine r_indexAddrV rfl Try.underlying87 (by simp only [upd_get, ev, Nat.reduceEqDiff, ↓reduceIte] <;> rfl) rfl (by first | assumption | exact SH.rsR H (by (repeat first | exact At.here | apply At.there); done) | exact SH.rsO H (by (repeat first | exact At.here | apply At.there); done) | exact (Rs.nil : Rs Non _ _ _)) (by exact Try.sizeOf66) (by omega) (by omega) ?_
      refine r_fieldAddrO rfl Try.underlying66 rfl Try.sizeOf50 (by decide) (show _ + 2 = _ from rfl) rfl ?_
      refine r_fieldAddrO rfl Try.underlying50 rfl Try.sizeOf48 (by decide) (show _ + 3 = _ from rfl) rfl ?_
      refine r_load rfl Try.isAgg48 rfl (by first | exact Rs.cell (o := 5) (by first | assumption | exact SH.rsR H (by (repeat first | exact At.here | apply At.there); done) | exact SH.rsO H (by (repeat first | exact At.here | apply At.there); done) | exact (Rs.nil : Rs Non _ _ _)) (by assumption) (by rfl) | exact Rs.cell0 (by first | assumption | exact SH.rsR H (by (repeat first | exact At.here | apply At.there); done) | exact SH.rsO H (by (repeat first | exact At.here | apply At.there); done) | exact (Rs.nil : Rs Non _ _ _)) (by assumption) (by rfl) | assumption) ?_
      first
        | refine r_lenV rfl Try.underlying48 (by simp only [upd_get, ev, Nat.reduceEqDiff, ↓reduceIte] <;> rfl) (hgr.up0 (SH.ext H)) ?_
        | refine r_len rfl Try.underlying48 rfl ?_
      refine r_gtr rfl rfl rfl ?_
      refine LW.nil ?_
      refine thenE_norm ?_
      refine cut (K := K12) [0, 1, 2, 7, 8, 32] (fun σ => ?_)
      simp only [setL, keepE, upd_get, ev, Nat.reduceEqDiff, ↓reduceIte]
      refine h12 _ _ ?_; clear h12; try clear K12
      refine CW.cond rfl (fun hc3 => ?_) (fun hc3 => ?_)
      · try simp only [decide_eq_true_eq, decide_eq_false_iff_not, Bool.and_eq_true, Bool.or_eq_true, Bool.and_eq_false_iff, Bool.or_eq_false_iff, Bool.not_eq_true', Bool.not_eq_false', beq_iff_eq, bne_iff_ne, ne_eq, Decidable.not_not] at hc3
        refine CW.seq (fun K13 h13 => ?_)
        refine CW.region ?_
        refine r_call rfl Try.call59 (by simp only [List.map_cons, List.map_nil, List.map_toArray, List.toList_toArray, upd_get, ev, Nat.reduceEqDiff, ↓reduceIte] <;> rfl) (awake9_c _) ?_
        rintro _ w8_0 ⟨rfl, X⟩
        refine ⟨_, rfl, ?_⟩
        replace H := SH.same H X
        clear X
        refine r_assign rfl ?_
        refine LW.nil ?_
        refine thenE_norm (h13 _ _ ?_); clear h13; try clear K13
        refine CW.ret (thenE_ret (blockE_ret (thenE_ret (thenE_ret (blockE_ret (thenE_ret (ret1 Try.results15 (by simp only [upd_get, ev, Nat.reduceEqDiff, ↓reduceIte]; rfl) ?_)))))))
        exact ⟨rfl, H.ext⟩
      · try simp only [decide_eq_true_eq, decide_eq_false_iff_not, Bool.and_eq_true, Bool.or_eq_true, Bool.and_eq_false_iff, Bool.or_eq_false_iff, Bool.not_eq_true', Bool.not_eq_false', beq_iff_eq, bne_iff_ne, ne_eq, Decidable.not_not] at hc3
        refine CW.skip ?_
        refine thenE_norm (h11 _ _ ?_); clear h11; try clear K11
        refine CW.seq (fun K14 h14 => ?_)
        refine CW.region ?_
        refine r_move rfl ?_
        refine r_move rfl ?_
        refine r_move rfl ?_
        refine r_indexAddrV rfl Try.underlying87 (by simp only [upd_get, ev, Nat.reduceEqDiff, ↓reduceIte] <;> rfl) rfl (by first | assumption | exact SH.rsR H (by (repeat first | exact At.here | apply At.there); done) | exact SH.rsO H (by (repeat first | exact At.here | apply At.there); done) | exact (Rs.nil : Rs Non _ _ _)) (by exact Try.sizeOf66) (by omega) (by omega) ?_
        refine r_loadA rfl Try.isAgg66 Try.sizeOf66 rfl (by first | exact Rs.cells0 (by first | assumption | exact SH.rsR H (by (repeat first | exact At.here | apply At.there); done) | exact SH.rsO H (by (repeat first | exact At.here | apply At.there); done) | exact (Rs.nil : Rs Non _ _ _)) (by assumption)) (by rfl) ?_
        refine r_call rfl Try.call63 (by simp only [List.map_cons, List.map_nil, List.map_toArray, List.toList_toArray, upd_get, ev, Nat.reduceEqDiff, ↓reduceIte] <;> rfl) (Keep_c (K := Old w) (K2 := Old w) ⟨_, _, ⟨_, _, _, _⟩⟩ _ (SH.rsO H (i := 1) rfl) (hm.up0 (SH.ext H)) (hgr.up0 (SH.ext H)) (by first | omega | (simp only [List.length_append, List.length_cons, List.length_nil]; omega) | (simp; omega)) hr hsg) ?_
        rintro _ w9_5 ⟨v9_5, raws9_5, g9_5, F9_5, rfl, K⟩
        refine ⟨_, rfl, ?_⟩
        replace H := SH.call H K
        clear K
        try dsimp only [replC, List.cons_append, List.nil_append, List.append_nil] at H
        refine r_assign rfl ?_
        refine LW.nil ?_
        refine thenE_norm (h14 _ _ ?_); clear h14; try clear K14
        refine CW.seq (fun K15 h15 => ?_)
        refine CW.region ?_
        refine r_move rfl ?_
        refine r_move rfl ?_
        refine r_move rfl ?_
        refine r_indexAddrV rfl Try.underlying87 (by simp only [upd_get, ev, Nat.reduceEqDiff, ↓reduceIte] <;> rfl) rfl (by first | assumption | exact SH.rsR H (by (repeat first | exact At.here | apply At.there); done) | exact SH.rsO H (by (repeat first | exact At.here | apply At.there); done) | exact (Rs.nil : Rs Non _ _ _)) (by exact Try.sizeOf66) (by omega) (by omega) ?_
        refine r_loadA rfl Try.isAgg66 Try.sizeOf66 rfl (by first | exact Rs.cells0 (by first | assumption | exact SH.rsR H (by (repeat first | exact At.here | apply At.there); done) | exact SH.rsO H (by (repeat first | exact At.here | apply At.there); done) | exact (Rs.nil : Rs Non _ _ _)) (by assumption)) (by rfl) ?_
        refine r_call rfl Try.call65 (by simp only [List.map_cons, List.map_nil, List.map_toArray, List.toList_toArray, upd_get, ev, Nat.reduceEqDiff, ↓reduceIte] <;> rfl) (KeepR_c (K := Old w) ⟨_, _, ⟨_, _, _, _⟩⟩ _ (SH.rsO H (i := 1) rfl) (hm.up0 (SH.ext H)) (hgr.up0 (SH.ext H)) (by first | omega | (simp only [List.length_append, List.length_cons, List.length_nil]; omega) | (simp; omega)) (right_up hr)) ?_
        rintro _ w10_5 ⟨v10_5, g10_5, rfl, K⟩
        refine ⟨_, rfl, ?_⟩
        replace H := SH.call H K
        clear K
        try dsimp only [replC, List.cons_append, List.nil_append, List.append_nil] at H
        have hm2 := keepRaw_r (a := ⟨a1, a2, ⟨a3, a4, a5, a6⟩⟩) hm hgr
        have hr2 := keep_right (mmA ⟨a1, a2, ⟨a3, a4, a5, a6⟩⟩ gs) hr
        have hml2 := keep_len ms (mmA ⟨a1, a2, ⟨a3, a4, a5, a6⟩⟩ gs)
        generalize keepRaw raws ms ⟨a1, a2, ⟨a3, a4, a5, a6⟩⟩ gs = raws2 at *
        generalize keepN ms (mmA ⟨a1, a2, ⟨a3, a4, a5, a6⟩⟩ gs) = ms2 at *
        have l2 := All2.len hm2
        have hup2 := all2_up mmr_key hm2 (right_up hr2)
        refine r_assign rfl ?_
        refine LW.nil ?_
        refine thenE_norm ?_
        refine cut (K := K15) [0, 1, 2, 8, 9, 10] (fun σ => ?_)
        simp only [setL, keepE, upd_get, ev, Nat.reduceEqDiff, ↓reduceIte]
        refine h15 _ _ ?_; clear h15; try clear K15
        refine CW.seq (fun K16 h16 => ?_)
        refine CW.seq (fun K17 h17 => ?_)
        refine CW.region ?_
        refine r_move rfl ?_
        refine r_move rfl ?_
        refine r_call rfl Try.call64 (by simp only [List.map_cons, List.map_nil, List.map_toArray, List.toList_toArray, upd_get, ev, Nat.reduceEqDiff, ↓reduceIte] <;> rfl) (SameMemos_c (K := F9_5) (K2 := Old w) _ (SH.rsO H (i := 2) rfl) (SH.rsO H (i := 4) rfl) (SH.prop H (i := 3) rfl) (hm2.up0 (SH.ext H))) ?_
        rintro _ w11_2 ⟨rfl, X⟩
        refine ⟨_, rfl, ?_⟩
        replace H := SH.same H X
        clear X
        refine r_not rfl rfl ?_
        refine r_move rfl ?_
        refine LW.known (t := 50) (c := false) rfl (by simp) (fun hg11_5 => ?_)
        refine LW.want rfl rfl hg11_5 ?_
        refine r_move rfl ?_
        refine LW.want rfl rfl hg11_5 ?_
        refine r_call rfl Try.call60 (by simp only [List.map_cons, List.map_nil, List.map_toArray, List.toList_toArray, upd_get, ev, Nat.reduceEqDiff, ↓reduceIte] <;> rfl) (Right_c _ (SH.rsO H (i := 4) rfl) (hm2.up0 (SH.ext H)) (right_small hr2)) ?_
        rintro _ w11_6 ⟨rfl, X⟩
        refine ⟨_, rfl, ?_⟩
        replace H := SH.same H X
        clear X
        refine LW.want rfl rfl hg11_5 ?_
        refine r_not rfl rfl ?_
        refine r_pickF rfl rfl hg11_5 ?_
        refine LW.nil ?_
        refine thenE_norm ?_
        refine cut (K := K17) [0, 1, 2, 8, 10, 54] (fun σ => ?_)
        simp only [setL, keepE, upd_get, ev, Nat.reduceEqDiff, ↓reduceIte]
        refine h17 _ _ ?_; clear h17; try clear K17
        refine CW.condF rfl (by rw [hr2]; rfl) ?_
        refine CW.skip ?_
        refine thenE_norm (h16 _ _ ?_); clear h16; try clear K16
        refine CW.seq (fun K18 h18 => ?_)
        refine CW.region ?_
        refine r_move rfl ?_
        refine r_assign rfl ?_
        refine LW.nil ?_
        refine thenE_norm (h18 _ _ ?_); clear h18; try clear K18
        refine CW.seq (fun K19 h19 => ?_)
        refine CW.drawP [0] [] H (by dsimp only [pickC, nthC] <;> rfl) (by repeat first | exact List.Sublist.refl _ | exact List.nil_sublist _ | apply List.Sublist.cons_cons | apply List.Sublist.cons) (by kernel_rfl) rfl ?_
        clear H
        intro w14d H
        refine DL.take (i := 0) [] rfl (by kernel_rfl) (by kernel_rfl) (by kernel_rfl) (by kernel_rfl) rfl rfl (fun u H => x_move ) (SH.sub H (by repeat first | exact List.Sublist.refl _ | exact List.nil_sublist _ | apply List.Sublist.cons_cons | apply List.Sublist.cons)) ?_
        refine DL.take (i := 1) [] rfl (by kernel_rfl) (by kernel_rfl) (by kernel_rfl) (by kernel_rfl) rfl rfl (fun u H => x_move ) (SH.sub H (by repeat first | exact List.Sublist.refl _ | exact List.nil_sublist _ | apply List.Sublist.cons_cons | apply List.Sublist.cons)) ?_
        refine DL.take (i := 2) [] rfl (by kernel_rfl) (by kernel_rfl) (by kernel_rfl) (by kernel_rfl) rfl rfl (fun u H => x_move ) (SH.sub H (by repeat first | exact List.Sublist.refl _ | exact List.nil_sublist _ | apply List.Sublist.cons_cons | apply List.Sublist.cons)) ?_
        refine DL.take (i := 3) [] rfl (by kernel_rfl) (by kernel_rfl) (by kernel_rfl) (by kernel_rfl) rfl rfl (fun u H => x_indexAddrV Try.underlying87 (by simp only [upd_get, ev, Nat.reduceEqDiff, ↓reduceIte] <;> rfl) rfl (by first | assumption | exact SH.rsR H (by (repeat first | exact At.here | apply At.there); done) | exact SH.rsO H (by (repeat first | exact At.here | apply At.there); done) | exact (Rs.nil : Rs Non _ _ _)) (by exact Try.sizeOf66) (by omega) (by omega)) (SH.sub H (by repeat first | exact List.Sublist.refl _ | exact List.nil_sublist _ | apply List.Sublist.cons_cons | apply List.Sublist.cons)) ?_
        refine DL.take (i := 4) [] rfl (by kernel_rfl) (by kernel_rfl) (by kernel_rfl) (by kernel_rfl) rfl rfl (fun u H => x_fieldAddrO Try.underlying66 rfl Try.sizeOf3 (by decide) (show _ + 0 = _ from rfl) rfl) (SH.sub H (by repeat first | exact List.Sublist.refl _ | exact List.nil_sublist _ | apply List.Sublist.cons_cons | apply List.Sublist.cons)) ?_
        refine DL.take (i := 5) [] rfl (by kernel_rfl) (by kernel_rfl) (by kernel_rfl) (by kernel_rfl) rfl rfl (fun u H => x_load Try.isAgg3 rfl (by first | exact Rs.cell (by first | assumption | exact SH.rsR H (by (repeat first | exact At.here | apply At.there); done) | exact SH.rsO H (by (repeat first | exact At.here | apply At.there); done) | exact (Rs.nil : Rs Non _ _ _)) (by assumption) (by rfl) | exact Rs.cell0 (by first | assumption | exact SH.rsR H (by (repeat first | exact At.here | apply At.there); done) | exact SH.rsO H (by (repeat first | exact At.here | apply At.there); done) | exact (Rs.nil : Rs Non _ _ _)) (by assumption) (by rfl) | assumption)) (SH.sub H (by repeat first | exact List.Sublist.refl _ | exact List.nil_sublist _ | apply List.Sublist.cons_cons | apply List.Sublist.cons)) ?_
        refine DL.take (i := 6) [] rfl (by kernel_rfl) (by kernel_rfl) (by kernel_rfl) (by kernel_rfl) rfl rfl (fun u H => x_move ) (SH.sub H (by repeat first | exact List.Sublist.refl _ | exact List.nil_sublist _ | apply List.Sublist.cons_cons | apply List.Sublist.cons)) ?_
        refine DL.take (i := 7) [] rfl (by kernel_rfl) (by kernel_rfl) (by kernel_rfl) (by kernel_rfl) rfl rfl (fun u H => x_move ) (SH.sub H (by repeat first | exact List.Sublist.refl _ | exact List.nil_sublist _ | apply List.Sublist.cons_cons | apply List.Sublist.cons)) ?_
        refine DL.take (i := 8) [] rfl (by kernel_rfl) (by kernel_rfl) (by kernel_rfl) (by kernel_rfl) rfl rfl (fun u H => x_indexAddrV Try.underlying87 (by simp only [upd_get, ev, Nat.reduceEqDiff, ↓reduceIte] <;> rfl) rfl (by first | assumption | exact SH.rsR H (by (repeat first | exact At.here | apply At.there); done) | exact SH.rsO H (by (repeat first | exact At.here | apply At.there); done) | exact (Rs.nil : Rs Non _ _ _)) (by exact Try.sizeOf66) (by omega) (by omega)) (SH.sub H (by repeat first | exact List.Sublist.refl _ | exact List.nil_sublist _ | apply List.Sublist.cons_cons | apply List.Sublist.cons)) ?_
        refine DL.take (i := 9) [] rfl (by kernel_rfl) (by kernel_rfl) (by kernel_rfl) (by kernel_rfl) rfl rfl (fun u H => x_fieldAddrO Try.underlying66 rfl Try.sizeOf3 (by decide) (show _ + 1 = _ from rfl) rfl) (SH.sub H (by repeat first | exact List.Sublist.refl _ | exact List.nil_sublist _ | apply List.Sublist.cons_cons | apply List.Sublist.cons)) ?_
        refine DL.take (i := 10) [] rfl (by kernel_rfl) (by kernel_rfl) (by kernel_rfl) (by kernel_rfl) rfl rfl (fun u H => x_load Try.isAgg3 rfl (by first | exact Rs.cell (o := 1) (by first | assumption | exact SH.rsR H (by (repeat first | exact At.here | apply At.there); done) | exact SH.rsO H (by (repeat first | exact At.here | apply At.there); done) | exact (Rs.nil : Rs Non _ _ _)) (by assumption) (by rfl) | exact Rs.cell0 (by first | assumption | exact SH.rsR H (by (repeat first | exact At.here | apply At.there); done) | exact SH.rsO H (by (repeat first | exact At.here | apply At.there); done) | exact (Rs.nil : Rs Non _ _ _)) (by assumption) (by rfl) | assumption)) (SH.sub H (by repeat first | exact List.Sublist.refl _ | exact List.nil_sublist _ | apply List.Sublist.cons_cons | apply List.Sublist.cons)) ?_
        refine DL.take (i := 12) [] rfl (by kernel_rfl) (by kernel_rfl) (by kernel_rfl) (by kernel_rfl) rfl rfl (fun u H => x_move ) (SH.sub H (by repeat first | exact List.Sublist.refl _ | exact List.nil_sublist _ | apply List.Sublist.cons_cons | apply List.Sublist.cons)) ?_
        refine DL.take (i := 13) [] rfl (by kernel_rfl) (by kernel_rfl) (by kernel_rfl) (by kernel_rfl) rfl rfl (fun u H => x_move ) (SH.sub H (by repeat first | exact List.Sublist.refl _ | exact List.nil_sublist _ | apply List.Sublist.cons_cons | apply List.Sublist.cons)) ?_
        refine DL.take (i := 14) [] rfl (by kernel_rfl) (by kernel_rfl) (by kernel_rfl) (by kernel_rfl) rfl rfl (fun u H => x_move ) (SH.sub H (by repeat first | exact List.Sublist.refl _ | exact List.nil_sublist _ | apply List.Sublist.cons_cons | apply List.Sublist.cons)) ?_
        refine DL.take (i := 15) [] rfl (by kernel_rfl) (by kernel_rfl) (by kernel_rfl) (by kernel_rfl) rfl rfl (fun u H => x_indexAddrV Try.underlying87 (by simp only [upd_get, ev, Nat.reduceEqDiff, ↓reduceIte] <;> rfl) rfl (by first | assumption | exact SH.rsR H (by (repeat first | exact At.here | apply At.there); done) | exact SH.rsO H (by (repeat first | exact At.here | apply At.there); done) | exact (Rs.nil : Rs Non _ _ _)) (by exact Try.sizeOf66) (by omega) (by omega)) (SH.sub H (by repeat first | exact List.Sublist.refl _ | exact List.nil_sublist _ | apply List.Sublist.cons_cons | apply List.Sublist.cons)) ?_
        refine DL.take (i := 16) [] rfl (by kernel_rfl) (by kernel_rfl) (by kernel_rfl) (by kernel_rfl) rfl rfl (fun u H => x_fieldAddrO Try.underlying66 rfl Try.sizeOf3 (by decide) (show _ + 0 = _ from rfl) rfl) (SH.sub H (by repeat first | exact List.Sublist.refl _ | exact List.nil_sublist _ | apply List.Sublist.cons_cons | apply List.Sublist.cons)) ?_
        refine DL.take (i := 17) [] rfl (by kernel_rfl) (by kernel_rfl) (by kernel_rfl) (by kernel_rfl) rfl rfl (fun u H => x_load Try.isAgg3 rfl (by first | exact Rs.cell (by first | assumption | exact SH.rsR H (by (repeat first | exact At.here | apply At.there); done) | exact SH.rsO H (by (repeat first | exact At.here | apply At.there); done) | exact (Rs.nil : Rs Non _ _ _)) (by assumption) (by rfl) | exact Rs.cell0 (by first | assumption | exact SH.rsR H (by (repeat first | exact At.here | apply At.there); done) | exact SH.rsO H (by (repeat first | exact At.here | apply At.there); done) | exact (Rs.nil : Rs Non _ _ _)) (by assumption) (by rfl) | assumption)) (SH.sub H (by repeat first | exact List.Sublist.refl _ | exact List.nil_sublist _ | apply List.Sublist.cons_cons | apply List.Sublist.cons)) ?_
        refine DL.take (i := 18) [] rfl (by kernel_rfl) (by kernel_rfl) (by kernel_rfl) (by kernel_rfl) rfl rfl (fun u H => x_move ) (SH.sub H (by repeat first | exact List.Sublist.refl _ | exact List.nil_sublist _ | apply List.Sublist.cons_cons | apply List.Sublist.cons)) ?_
        refine DL.take (i := 19) [] rfl (by kernel_rfl) (by kernel_rfl) (by kernel_rfl) (by kernel_rfl) rfl rfl (fun u H => x_move ) (SH.sub H (by repeat first | exact List.Sublist.refl _ | exact List.nil_sublist _ | apply List.Sublist.cons_cons | apply List.Sublist.cons)) ?_
        refine DL.take (i := 20) [] rfl (by kernel_rfl) (by kernel_rfl) (by kernel_rfl) (by kernel_rfl) rfl rfl (fun u H => x_indexAddrV Try.underlying87 (by simp only [upd_get, ev, Nat.reduceEqDiff, ↓reduceIte] <;> rfl) rfl (by first | assumption | exact SH.rsR H (by (repeat first | exact At.here | apply At.there); done) | exact SH.rsO H (by (repeat first | exact At.here | apply At.there); done) | exact (Rs.nil : Rs Non _ _ _)) (by exact Try.sizeOf66) (by omega) (by omega)) (SH.sub H (by repeat first | exact List.Sublist.refl _ | exact List.nil_sublist _ | apply List.Sublist.cons_cons | apply List.Sublist.cons)) ?_
        refine DL.take (i := 21) [] rfl (by kernel_rfl) (by kernel_rfl) (by kernel_rfl) (by kernel_rfl) rfl rfl (fun u H => x_fieldAddrO Try.underlying66 rfl Try.sizeOf3 (by decide) (show _ + 1 = _ from rfl) rfl) (SH.sub H (by repeat first | exact List.Sublist.refl _ | exact List.nil_sublist _ | apply List.Sublist.cons_cons | apply List.Sublist.cons)) ?_
        refine DL.take (i := 22) [] rfl (by kernel_rfl) (by kernel_rfl) (by kernel_rfl) (by kernel_rfl) rfl rfl (fun u H => x_load Try.isAgg3 rfl (by first | exact Rs.cell (o := 1) (by first | assumption | exact SH.rsR H (by (repeat first | exact At.here | apply At.there); done) | exact SH.rsO H (by (repeat first | exact At.here | apply At.there); done) | exact (Rs.nil : Rs Non _ _ _)) (by assumption) (by rfl) | exact Rs.cell0 (by first | assumption | exact SH.rsR H (by (repeat first | exact At.here | apply At.there); done) | exact SH.rsO H (by (repeat first | exact At.here | apply At.there); done) | exact (Rs.nil : Rs Non _ _ _)) (by assumption) (by rfl) | assumption)) (SH.sub H (by repeat first | exact List.Sublist.refl _ | exact List.nil_sublist _ | apply List.Sublist.cons_cons | apply List.Sublist.cons)) ?_
        refine DL.one (i := 11) (by kernel_rfl) rfl rfl ?_
        refine r_call rfl Try.call66 (by simp only [List.map_cons, List.map_nil, List.map_toArray, List.toList_toArray, upd_get, ev, Nat.reduceEqDiff, ↓reduceIte] <;> rfl) (FreshM_c _ _ _ (SH.rsO H (i := 4) rfl) (by first | omega | (simp only [List.length_append, List.length_cons, List.length_nil]; omega) | (simp; omega)) hup2) ?_
        rintro _ w14_11 ⟨rfl, X⟩
        refine ⟨_, rfl, ?_⟩
        replace H := SH.same H X
        clear X
        refine LW.nil (thenE_norm ⟨fun _ => (SH.sub H (by repeat first | exact List.Sublist.refl _ | exact List.nil_sublist _ | apply List.Sublist.cons_cons | apply List.Sublist.cons)), ?_⟩)
        refine DL.one (i := 23) (by kernel_rfl) rfl rfl ?_
        refine r_call rfl Try.call67 (by simp only [List.map_cons, List.map_nil, List.map_toArray, List.toList_toArray, upd_get, ev, Nat.reduceEqDiff, ↓reduceIte] <;> rfl) (FreshR_c _ _ _ (SH.rsO H (i := 4) rfl) (hm2.up0 (SH.ext H))) ?_
        rintro _ w14_23 ⟨rfl, X⟩
        refine ⟨_, rfl, ?_⟩
        replace H := SH.same H X
        clear X
        refine LW.nil (thenE_norm ⟨fun _ => (SH.sub H (by repeat first | exact List.Sublist.refl _ | exact List.nil_sublist _ | apply List.Sublist.cons_cons | apply List.Sublist.cons)), ?_⟩)
        refine DL.take (i := 24) [] rfl (by kernel_rfl) (by kernel_rfl) (by kernel_rfl) (by kernel_rfl) rfl rfl (fun u H => x_neq rfl rfl) (SH.sub H (by repeat first | exact List.Sublist.refl _ | exact List.nil_sublist _ | apply List.Sublist.cons_cons | apply List.Sublist.cons)) ?_
        refine DL.done (by kernel_rfl) ?_
        refine thenE_norm ?_
        refine cut (K := K19) [0, 1, 2, 7, 8, 80] (fun σ => ?_)
        simp only [setL, keepE, upd_get, ev, Nat.reduceEqDiff, ↓reduceIte]
        refine h19 _ _ ?_; clear h19; try clear K19
        refine CW.condF rfl (by rw [fresh_raw hm2]; simp) ?_
        refine CW.skip ?_
        refine blockE_norm ?_
        refine thenE_norm (h10 _ _ ?_); clear h10; try clear K10
        refine CW.region ?_
        refine r_move rfl ?_
        refine r_add rfl rfl rfl (wr_i64 (by omega) (by omega)) ?_
        refine r_assign rfl ?_
        refine LW.nil ?_
        refine thenE_norm ⟨rfl, ?_⟩
        exact ⟨al.length - (i + 1), by omega, i + 1, _, _, _, _, rfl, by omega, rfl, by omega, hr2, hm2, SH.sel H [0, 4] (by decide) rfl⟩
    · try simp only [decide_eq_true_eq, decide_eq_false_iff_not, Bool.and_eq_true, Bool.or_eq_true, Bool.and_eq_false_iff, Bool.or_eq_false_iff, Bool.not_eq_true', Bool.not_eq_false', beq_iff_eq, bne_iff_ne, ne_eq, Decidable.not_not] at hc2
      refine CW.exit (thenE_exit (thenE_exit (blockE_hit ?_)))
      refine thenE_norm (h6 _ _ ?_); clear h6; try clear K6
      refine CW.seq (fun K20 h20 => ?_)
      refine CW.region ?_
      refine r_move rfl ?_
      refine r_move rfl ?_
      refine r_call rfl Try.call68 (by simp only [List.map_cons, List.map_nil, List.map_toArray, List.toList_toArray, upd_get, ev, Nat.reduceEqDiff, ↓reduceIte] <;> rfl) (Last_c _ _ (SH.rsO H (i := 1) rfl) (hm.up0 (SH.ext H)) (by first | omega | (simp only [List.length_append, List.length_cons, List.length_nil]; omega) | (simp; omega)) (right_short hr) hup) ?_
      rintro _ w16_2 ⟨v16_2, g16_2, rfl, K⟩
      refine ⟨_, rfl, ?_⟩
      replace H := SH.call H K
      clear K
      try dsimp only [replC, List.cons_append, List.nil_append, List.append_nil] at H
      refine r_move rfl ?_
      refine r_extract rfl (by simp only [upd_get, ev, Nat.reduceEqDiff, ↓reduceIte] <;> rfl) (by simp only [List.getElem?_toArray, List.getElem?_cons_zero, List.getElem?_cons_succ] <;> rfl) ?_
      refine r_extract rfl (by simp only [upd_get, ev, Nat.reduceEqDiff, ↓reduceIte] <;> rfl) (by simp only [List.getElem?_toArray, List.getElem?_cons_zero, List.getElem?_cons_succ] <;> rfl) ?_
      refine s_alloc (cs := [.int .i64 0, .int .i64 0, .int .i64 0, .int .i64 0, .int .i64 0, .slice none 0 0]) H rfl Try.zeroValue80 rfl ?_
      clear H
      intro b16_6 w16_6 H
      try dsimp only [replC, List.cons_append, List.nil_append, List.append_nil, agg, cellsL, Value.cells, List.toList_toArray, List.set_cons_zero, List.set_cons_succ, spliceL, List.take_succ_cons, List.take_zero, List.drop_succ_cons, List.drop_zero, List.length_cons, List.length_nil, Nat.reduceAdd, Row.cells, Gr.L, Rep.L, Mem.L, Ans.L] at H
      refine s_storeA H Try.sizeOf80 rfl (by simp only [upd_get, ev, Nat.reduceEqDiff, ↓reduceIte] <;> rfl) (by simp only [cellsL, agg, List.toList_toArray, Row.cells, Gr.L, Rep.L, Mem.L, Ans.L] <;> rfl) (by rfl) (by first | rfl | assumption | exact Rs.oneC (by first | assumption | exact SH.rsR H (by (repeat first | exact At.here | apply At.there); done) | exact SH.rsO H (by (repeat first | exact At.here | apply At.there); done) | exact (Rs.nil : Rs Non _ _ _)) | (simp only [List.all_cons, List.all_nil, Bool.and_true, Bool.and_eq_true, Row.cells, Gr.L, Rep.L, Mem.L, Ans.L]; (repeat' constructor) <;> first | rfl | assumption | exact Rs.oneC (by first | assumption | exact SH.rsR H (by (repeat first | exact At.here | apply At.there); done) | exact SH.rsO H (by (repeat first | exact At.here | apply At.there); done) | exact (Rs.nil : Rs Non _ _ _)))) (by (repeat first | exact At.here | apply At.there); done) (by first | (simp; done) | decide | (show _ ≤ _; decide)) ?_
      clear H
      intro w16_7 H
      try dsimp only [replC, List.cons_append, List.nil_append, List.append_nil, agg, cellsL, Value.cells, List.toList_toArray, List.set_cons_zero, List.set_cons_succ, spliceL, List.take_succ_cons, List.take_zero, List.drop_succ_cons, List.drop_zero, List.length_cons, List.length_nil, Nat.reduceAdd, Row.cells, Gr.L, Rep.L, Mem.L, Ans.L] at H
      refine r_assign rfl ?_
      refine LW.nil ?_
      refine thenE_norm ?_
      refine cut (K := K20) [1, 2, 7, 11, 12] (fun σ => ?_)
      simp only [setL, keepE, upd_get, ev, Nat.reduceEqDiff, ↓reduceIte]
      refine h20 _ _ ?_; clear h20; try clear K20
      refine CW.seq (fun K21 h21 => ?_)
      refine CW.region ?_
      refine r_move rfl ?_
      refine r_move rfl ?_
      refine r_call rfl Try.call69 (by simp only [List.map_cons, List.map_nil, List.map_toArray, List.toList_toArray, upd_get, ev, Nat.reduceEqDiff, ↓reduceIte] <;> rfl) (LastR_c _ _ (SH.rsO H (i := 1) rfl) (hm.up0 (SH.ext H))) ?_
      rintro _ w17_2 ⟨r17_2, rfl, hr17_2, X⟩
      refine ⟨_, rfl, ?_⟩
      replace H := SH.same H X
      clear X
      have hrr := hr17_2 (Old w) w hm
      obtain ⟨r1, r2, ⟨r3, r4, r5, r6⟩⟩ := r17_2
      generalize lastN ms c = L at *
      obtain ⟨⟨l1', l2', l3', l4', l5', l6'⟩, lb⟩ := L
      dsimp only at H hrr ⊢
      have ho6 : oneC r6 = true := Rs.oneC hrr.2.2.2.2.2
      refine r_move rfl ?_
      refine r_extract rfl (by simp only [upd_get, ev, Nat.reduceEqDiff, ↓reduceIte] <;> rfl) (by simp only [List.getElem?_toArray, List.getElem?_cons_zero, List.getElem?_cons_succ] <;> rfl) ?_
      refine r_extract rfl (by simp only [upd_get, ev, Nat.reduceEqDiff, ↓reduceIte] <;> rfl) (by simp only [List.getElem?_toArray, List.getElem?_cons_zero, List.getElem?_cons_succ] <;> rfl) ?_
      refine s_alloc (cs := [.int .i64 0, .int .i64 0, .int .i64 0, .int .i64 0, .int .i64 0, .slice none 0 0]) H rfl Try.zeroValue80 rfl ?_
      clear H
      intro b17_6 w17_6 H
      try dsimp only [replC, List.cons_append, List.nil_append, List.append_nil, agg, cellsL, Value.cells, List.toList_toArray, List.set_cons_zero, List.set_cons_succ, spliceL, List.take_succ_cons, List.take_zero, List.drop_succ_cons, List.drop_zero, List.length_cons, List.length_nil, Nat.reduceAdd, Row.cells, Gr.L, Rep.L, Mem.L, Ans.L] at H
      refine s_storeA H Try.sizeOf80 rfl (by simp only [upd_get, ev, Nat.reduceEqDiff, ↓reduceIte] <;> rfl) (by simp only [cellsL, agg, List.toList_toArray, Row.cells, Gr.L, Rep.L, Mem.L, Ans.L] <;> rfl) (by rfl) (by first | rfl | assumption | exact Rs.oneC (by first | assumption | exact SH.rsR H (by (repeat first | exact At.here | apply At.there); done) | exact SH.rsO H (by (repeat first | exact At.here | apply At.there); done) | exact (Rs.nil : Rs Non _ _ _)) | (simp only [List.all_cons, List.all_nil, Bool.and_true, Bool.and_eq_true, Row.cells, Gr.L, Rep.L, Mem.L, Ans.L]; (repeat' constructor) <;> first | rfl | assumption | exact Rs.oneC (by first | assumption | exact SH.rsR H (by (repeat first | exact At.here | apply At.there); done) | exact SH.rsO H (by (repeat first | exact At.here | apply At.there); done) | exact (Rs.nil : Rs Non _ _ _)))) (by (repeat first | exact At.here | apply At.there); done) (by first | (simp; done) | decide | (show _ ≤ _; decide)) ?_
      clear H
      intro w17_7 H
      try dsimp only [replC, List.cons_append, List.nil_append, List.append_nil, agg, cellsL, Value.cells, List.toList_toArray, List.set_cons_zero, List.set_cons_succ, spliceL, List.take_succ_cons, List.take_zero, List.drop_succ_cons, List.drop_zero, List.length_cons, List.length_nil, Nat.reduceAdd, Row.cells, Gr.L, Rep.L, Mem.L, Ans.L] at H
      refine r_assign rfl ?_
      refine LW.nil ?_
      refine thenE_norm ?_
      refine cut (K := K21) [1, 2, 7, 11, 12, 13, 14] (fun σ => ?_)
      simp only [setL, keepE, upd_get, ev, Nat.reduceEqDiff, ↓reduceIte]
      refine h21 _ _ ?_; clear h21; try clear K21
      refine CW.seq (fun K22 h22 => ?_)
      have hf : freshM raws c q = freshN ms c q := fresh_raw hm c q
      refine CW.region ?_
      refine r_move rfl ?_
      refine r_move rfl ?_
      refine r_eqlB rfl Try.underlying4 rfl rfl ?_
      refine r_move rfl ?_
      refine LW.known (t := 96) (c := true) rfl (by simp) (fun hg18_4 => ?_)
      refine LW.want rfl rfl hg18_4 ?_
      refine r_loadA rfl Try.isAgg80 Try.sizeOf80 rfl (by first | exact SH.cells H (by (repeat first | exact At.here | apply At.there); done)) (by rfl) ?_
      refine LW.want rfl rfl hg18_4 ?_
      refine r_buildSliceA (vs := [_]) rfl Try.underlying81 Try.sizeOf80 Try.zeroValue80 rfl rfl rfl rfl (by simp only [List.map_cons, List.map_nil, List.toList_toArray, numbered, Nat.reduceAdd, upd_get, ev, Nat.reduceEqDiff, ↓reduceIte] <;> rfl) rfl (by intro v hv; simp only [List.mem_cons, List.not_mem_nil, or_false] at hv; rcases hv with rfl <;> rfl) ?_
      intro b18_5 w18_5 hb18_5 hs18_5 hE18_5 hB18_5
      replace H := SH.call H (SH.fromB hE18_5 hb18_5 hs18_5 hB18_5)
      clear hb18_5 hs18_5 hE18_5 hB18_5
      try dsimp only [replC, List.cons_append, List.nil_append, List.append_nil, agg, cellsL, Value.cells, List.toList_toArray, List.set_cons_zero, List.set_cons_succ, spliceL, List.take_succ_cons, List.take_zero, List.drop_succ_cons, List.drop_zero, List.length_cons, List.length_nil, Nat.reduceAdd, Row.cells, Gr.L, Rep.L, Mem.L, Ans.L] at H
      replace H := SH.row (b := b18_5) (xs := ([⟨l1', l2', ⟨l3', l4', l5', v16_2⟩⟩] : List Mem)) (n := 1) (cap := 1) H (by (repeat first | exact At.here | apply At.there); done) (by simp only [flat, List.flatMap_cons, List.flatMap_nil, cellsL, agg, List.append_nil, List.cons_append, List.nil_append, List.toList_toArray, Row.cells, Gr.L, Rep.L, Mem.L, Ans.L] <;> rfl) (by intro x hx; first | rfl | (simp at hx; done) | (simp only [List.mem_cons, List.not_mem_nil, or_false] at hx; rcases hx with rfl <;> first | rfl | exact (by first | rfl | assumption | exact Rs.oneC (by first | assumption | exact SH.rsR H (by (repeat first | exact At.here | apply At.there); done) | exact SH.rsO H (by (repeat first | exact At.here | apply At.there); done) | exact (Rs.nil : Rs Non _ _ _)) | (simp only [List.all_cons, List.all_nil, Bool.and_true, Bool.and_eq_true, Row.cells, Gr.L, Rep.L, Mem.L, Ans.L]; (repeat' constructor) <;> first | rfl | assumption | exact Rs.oneC (by first | assumption | exact SH.rsR H (by (repeat first | exact At.here | apply At.there); done) | exact SH.rsO H (by (repeat first | exact At.here | apply At.there); done) | exact (Rs.nil : Rs Non _ _ _)))))) (by rfl) rfl (by decide)
      try dsimp only [replC, List.cons_append, List.nil_append, List.append_nil, agg, cellsL, Value.cells, List.toList_toArray, List.set_cons_zero, List.set_cons_succ, spliceL, List.take_succ_cons, List.take_zero, List.drop_succ_cons, List.drop_zero, List.length_cons, List.length_nil, Nat.reduceAdd, Row.cells, Gr.L, Rep.L, Mem.L, Ans.L] at H
      refine LW.want rfl rfl hg18_4 ?_
      refine r_loadA rfl Try.isAgg80 Try.sizeOf80 rfl (by first | exact SH.cells H (by (repeat first | exact At.here | apply At.there); done)) (by rfl) ?_
      refine LW.want rfl rfl hg18_4 ?_
      refine r_buildSliceA (vs := [_]) rfl Try.underlying81 Try.sizeOf80 Try.zeroValue80 rfl rfl rfl rfl (by simp only [List.map_cons, List.map_nil, List.toList_toArray, numbered, Nat.reduceAdd, upd_get, ev, Nat.reduceEqDiff, ↓reduceIte] <;> rfl) rfl (by intro v hv; simp only [List.mem_cons, List.not_mem_nil, or_false] at hv; rcases hv with rfl <;> rfl) ?_
      intro b18_7 w18_7 hb18_7 hs18_7 hE18_7 hB18_7
      replace H := SH.call H (SH.fromB hE18_7 hb18_7 hs18_7 hB18_7)
      clear hb18_7 hs18_7 hE18_7 hB18_7
      try dsimp only [replC, List.cons_append, List.nil_append, List.append_nil, agg, cellsL, Value.cells, List.toList_toArray, List.set_cons_zero, List.set_cons_succ, spliceL, List.take_succ_cons, List.take_zero, List.drop_succ_cons, List.drop_zero, List.length_cons, List.length_nil, Nat.reduceAdd, Row.cells, Gr.L, Rep.L, Mem.L, Ans.L] at H
      replace H := SH.row (b := b18_7) (xs := ([⟨r1, r2, ⟨r3, r4, r5, r6⟩⟩] : List Mem)) (n := 1) (cap := 1) H (by (repeat first | exact At.here | apply At.there); done) (by simp only [flat, List.flatMap_cons, List.flatMap_nil, cellsL, agg, List.append_nil, List.cons_append, List.nil_append, List.toList_toArray, Row.cells, Gr.L, Rep.L, Mem.L, Ans.L] <;> rfl) (by intro x hx; first | rfl | (simp at hx; done) | (simp only [List.mem_cons, List.not_mem_nil, or_false] at hx; rcases hx with rfl <;> first | rfl | exact (by first | rfl | assumption | exact Rs.oneC (by first | assumption | exact SH.rsR H (by (repeat first | exact At.here | apply At.there); done) | exact SH.rsO H (by (repeat first | exact At.here | apply At.there); done) | exact (Rs.nil : Rs Non _ _ _)) | (simp only [List.all_cons, List.all_nil, Bool.and_true, Bool.and_eq_true, Row.cells, Gr.L, Rep.L, Mem.L, Ans.L]; (repeat' constructor) <;> first | rfl | assumption | exact Rs.oneC (by first | assumption | exact SH.rsR H (by (repeat first | exact At.here | apply At.there); done) | exact SH.rsO H (by (repeat first | exact At.here | apply At.there); done) | exact (Rs.nil : Rs Non _ _ _)))))) (by rfl) rfl (by decide)
      try dsimp only [replC, List.cons_append, List.nil_append, List.append_nil, agg, cellsL, Value.cells, List.toList_toArray, List.set_cons_zero, List.set_cons_succ, spliceL, List.take_succ_cons, List.take_zero, List.drop_succ_cons, List.drop_zero, List.length_cons, List.length_nil, Nat.reduceAdd, Row.cells, Gr.L, Rep.L, Mem.L, Ans.L] at H
      refine LW.want rfl rfl hg18_4 ?_
      refine r_call rfl Try.call64 (by simp only [List.map_cons, List.map_nil, List.map_toArray, List.toList_toArray, upd_get, ev, Nat.reduceEqDiff, ↓reduceIte] <;> rfl) (SameMemos_c (K := fun b => g16_2 = some b) (K2 := Old w) (ms := [⟨l1', l2', l3', l4', l5', l6'⟩]) (ns := [⟨l1', l2', l3', l4', l5', l6'⟩]) _ (SH.rsO H (i := 5) rfl) (SH.rsO H (i := 6) rfl) ⟨⟨rfl, rfl, rfl, rfl, rfl, SH.rsO H (i := 2) rfl⟩, trivial⟩ ⟨hrr.up0 (SH.ext H), trivial⟩) ?_
      rintro _ w18_8 ⟨rfl, X⟩
      refine ⟨_, rfl, ?_⟩
      replace H := SH.same H X
      clear X
      refine r_pickT rfl rfl hg18_4 ?_
      refine r_move rfl ?_
      refine LW.known (t := 103) (c := true) rfl (by simp) (fun hg18_11 => ?_)
      refine LW.want rfl rfl hg18_11 ?_
      refine r_move rfl ?_
      refine LW.want rfl rfl hg18_11 ?_
      refine r_move rfl ?_
      refine LW.want rfl rfl hg18_11 ?_
      refine r_move rfl ?_
      refine LW.want rfl rfl hg18_11 ?_
      refine r_call rfl Try.call66 (by simp only [List.map_cons, List.map_nil, List.map_toArray, List.toList_toArray, upd_get, ev, Nat.reduceEqDiff, ↓reduceIte] <;> rfl) (FreshM_c _ _ _ (SH.rsO H (i := 1) rfl) (by first | omega | (simp only [List.length_append, List.length_cons, List.length_nil]; omega) | (simp; omega)) hup) ?_
      rintro _ w18_14 ⟨rfl, X⟩
      refine ⟨_, rfl, ?_⟩
      replace H := SH.same H X
      clear X
      refine LW.want rfl rfl hg18_11 ?_
      refine r_move rfl ?_
      refine LW.want rfl rfl hg18_11 ?_
      refine r_move rfl ?_
      refine LW.want rfl rfl hg18_11 ?_
      refine r_move rfl ?_
      refine LW.want rfl rfl hg18_11 ?_
      refine r_call rfl Try.call67 (by simp only [List.map_cons, List.map_nil, List.map_toArray, List.toList_toArray, upd_get, ev, Nat.reduceEqDiff, ↓reduceIte] <;> rfl) (FreshR_c _ _ _ (SH.rsO H (i := 1) rfl) (hm.up0 (SH.ext H))) ?_
      rintro _ w18_18 ⟨rfl, X⟩
      refine ⟨_, rfl, ?_⟩
      replace H := SH.same H X
      clear X
      refine LW.want rfl rfl hg18_11 ?_
      refine r_eql rfl rfl rfl ?_
      refine r_pickT rfl rfl hg18_11 ?_
      refine r_move rfl ?_
      refine LW.known (t := 114) (c := true) rfl (by rw [hf]; simp) (fun hg18_22 => ?_)
      refine LW.want rfl rfl hg18_22 ?_
      refine r_call rfl Try.call59 (by simp only [List.map_cons, List.map_nil, List.map_toArray, List.toList_toArray, upd_get, ev, Nat.reduceEqDiff, ↓reduceIte] <;> rfl) (awake9_c _) ?_
      rintro _ w18_22 ⟨rfl, X⟩
      refine ⟨_, rfl, ?_⟩
      replace H := SH.same H X
      clear X
      refine r_pickT rfl rfl hg18_22 ?_
      refine r_assign rfl ?_
      refine LW.nil ?_
      refine thenE_norm ?_
      refine cut (K := K22) [6] (fun σ => ?_)
      simp only [setL, keepE, upd_get, ev, Nat.reduceEqDiff, ↓reduceIte]
      refine h22 _ _ ?_; clear h22; try clear K22
      refine CW.ret (ret1 Try.results15 (by simp only [upd_get, ev, Nat.reduceEqDiff, ↓reduceIte]; rfl) ?_)
      exact ⟨rfl, H.ext⟩
end Go.Proofs.Ytlfbofnfhhddbaa
