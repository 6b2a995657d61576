/-
  The walks of layer 15's laws: the example; LearnRoom.
-/
import Derived.Test.YtalieccfdmokmaaVLeD
namespace Go.Proofs.Ytalieccfdmokmaa
set_option linter.unusedSimpArgs false
set_option linter.unusedVariables false
set_option maxRecDepth 20000
open Go.V Go.RowKit Go.ChangeShapes Go.WideShapes

theorem SameInts_c {F G : Nat → Prop} {a b : Value} {xs ys : List Int} (w : World) (ha : Rs F w a xs) (hb : Rs G w b ys) :
    Calls Try.prog 39 #[a, b] w fun e w' => e = .returned (.bool (decide (xs = ys))) ∧ Ext0 w w' := by
  have h63 := ha.len63
  have H := ((SH.start w).arg ha).arg hb
  refine calls_of_CW Try.func39 rfl Try.ntmps39 (Nat.le_of_ble_eq_true rfl) ?_
  simp only [argE, argFrom, Nat.reduceAdd]
  refine CW.seq (fun K1 h1 => ?_)
  refine CW.region ?_
  refine r_assign rfl ?_
  refine LW.nil ?_
  refine thenE_norm (h1 _ _ ?_); clear h1; try clear K1
  refine CW.seq (fun K2 h2 => ?_)
  refine CW.seq (fun K3 h3 => ?_)
  refine CW.region ?_
  refine r_move rfl ?_
  first
    | refine r_lenV rfl Try.underlying41 (by simp only [upd_get, ev, Nat.reduceEqDiff, ↓reduceIte] <;> rfl) (by first | assumption | exact SH.rsR H (by (repeat first | exact At.here | apply At.there); done) | exact SH.rsO H (by (repeat first | exact At.here | apply At.there); done) | exact (Rs.nil : Rs Non _ _ _)) ?_
    | refine r_len rfl Try.underlying41 rfl ?_
  refine r_move rfl ?_
  first
    | refine r_lenV rfl Try.underlying41 (by simp only [upd_get, ev, Nat.reduceEqDiff, ↓reduceIte] <;> rfl) (by first | assumption | exact SH.rsR H (by (repeat first | exact At.here | apply At.there); done) | exact SH.rsO H (by (repeat first | exact At.here | apply At.there); done) | exact (Rs.nil : Rs Non _ _ _)) ?_
    | refine r_len rfl Try.underlying41 rfl ?_
  refine r_neq rfl rfl rfl ?_
  refine LW.nil ?_
  refine thenE_norm (h3 _ _ ?_); clear h3; try clear K3
  refine CW.cond rfl (fun hc1 => ?_) (fun hc1 => ?_)
  · try simp only [decide_eq_true_eq, decide_eq_false_iff_not, Bool.and_eq_true, Bool.or_eq_true, Bool.and_eq_false_iff, Bool.or_eq_false_iff, Bool.not_eq_true', Bool.not_eq_false', beq_iff_eq, bne_iff_ne, ne_eq, Decidable.not_not] at hc1
    refine CW.seq (fun K4 h4 => ?_)
    refine CW.region ?_
    refine r_assign rfl ?_
    refine LW.nil ?_
    refine thenE_norm (h4 _ _ ?_); clear h4; try clear K4
    refine CW.ret (thenE_ret (ret1 Try.results39 (by simp only [upd_get, ev, Nat.reduceEqDiff, ↓reduceIte]; rfl) ?_))
    exact ⟨by rw [decide_eq_false (fun e => by rw [e] at hc1; simp at hc1)], Ext.refl _ _⟩
  · try simp only [decide_eq_true_eq, decide_eq_false_iff_not, Bool.and_eq_true, Bool.or_eq_true, Bool.and_eq_false_iff, Bool.or_eq_false_iff, Bool.not_eq_true', Bool.not_eq_false', beq_iff_eq, bne_iff_ne, ne_eq, Decidable.not_not] at hc1
    refine CW.skip ?_
    refine thenE_norm (h2 _ _ ?_); clear h2; try clear K2
    refine CW.seq (fun K5 h5 => ?_)
    refine CW.seq (fun K6 h6 => ?_)
    refine CW.region ?_
    refine r_assign rfl ?_
    refine LW.nil ?_
    refine thenE_norm (h6 _ _ ?_); clear h6; try clear K6
    refine CW.block ?_
    refine CW.loopR [0, 1] [5] (fun m vs w' => ∃ i : Nat, vs = [.int .i64 i] ∧ i ≤ xs.length ∧ m = xs.length - i ∧ xs.take i = ys.take i ∧ SH Non Any w w' [.R (Old w) a xs, .R (Old w) b ys]) (xs.length) ?_ ?_
    · exact ⟨0, rfl, by omega, by omega, by simp, H⟩
    try clear H
    rintro n1 vs1 wL1 σ ⟨i, rfl, hi, rfl, hsame, H⟩
    simp only [setL, keepE, upd_get, ev, Nat.reduceEqDiff, ↓reduceIte]
    refine CW.seq (fun K7 h7 => ?_)
    refine CW.seq (fun K8 h8 => ?_)
    refine CW.region ?_
    refine r_move rfl ?_
    refine r_move rfl ?_
    first
      | refine r_lenV rfl Try.underlying41 (by simp only [upd_get, ev, Nat.reduceEqDiff, ↓reduceIte] <;> rfl) (by first | assumption | exact SH.rsR H (by (repeat first | exact At.here | apply At.there); done) | exact SH.rsO H (by (repeat first | exact At.here | apply At.there); done) | exact (Rs.nil : Rs Non _ _ _)) ?_
      | refine r_len rfl Try.underlying41 rfl ?_
    refine r_lss rfl rfl rfl ?_
    refine LW.nil ?_
    refine thenE_norm (h8 _ _ ?_); clear h8; try clear K8
    refine CW.cond rfl (fun hc2 => ?_) (fun hc2 => ?_)
    · try simp only [decide_eq_true_eq, decide_eq_false_iff_not, Bool.and_eq_true, Bool.or_eq_true, Bool.and_eq_false_iff, Bool.or_eq_false_iff, Bool.not_eq_true', Bool.not_eq_false', beq_iff_eq, bne_iff_ne, ne_eq, Decidable.not_not] at hc2
      refine CW.skip ?_
      refine thenE_norm (h7 _ _ ?_); clear h7; try clear K7
      refine CW.seq (fun K9 h9 => ?_)
      refine CW.block ?_
      refine CW.seq (fun K10 h10 => ?_)
      obtain ⟨x, hx⟩ := get_of_lt (show i < xs.length by omega)
      obtain ⟨y, hy⟩ := get_of_lt (show i < ys.length by omega)
      refine CW.drawH [] H (List.Sublist.refl _) (by kernel_rfl) rfl ?_
      clear H
      intro w6d H
      refine DL.take (i := 0) [] rfl (by kernel_rfl) (by kernel_rfl) (by kernel_rfl) (by kernel_rfl) rfl rfl (fun u H => x_move ) H ?_
      refine DL.take (i := 1) [] rfl (by kernel_rfl) (by kernel_rfl) (by kernel_rfl) (by kernel_rfl) rfl rfl (fun u H => x_move ) H ?_
      refine DL.take (i := 2) [] rfl (by kernel_rfl) (by kernel_rfl) (by kernel_rfl) (by kernel_rfl) rfl rfl (fun u H => x_indexAddrV Try.underlying41 (by simp only [upd_get, ev, Nat.reduceEqDiff, ↓reduceIte] <;> rfl) rfl (by first | assumption | exact SH.rsR H (by (repeat first | exact At.here | apply At.there); done) | exact SH.rsO H (by (repeat first | exact At.here | apply At.there); done) | exact (Rs.nil : Rs Non _ _ _)) (by exact Try.sizeOf3) (by omega) (by omega)) H ?_
      refine DL.take (i := 3) [] rfl (by kernel_rfl) (by kernel_rfl) (by kernel_rfl) (by kernel_rfl) rfl rfl (fun u H => x_load Try.isAgg3 rfl (by first | exact Rs.cell (by first | assumption | exact SH.rsR H (by (repeat first | exact At.here | apply At.there); done) | exact SH.rsO H (by (repeat first | exact At.here | apply At.there); done) | exact (Rs.nil : Rs Non _ _ _)) (by assumption) (by rfl) | exact Rs.cell0 (by first | assumption | exact SH.rsR H (by (repeat first | exact At.here | apply At.there); done) | exact SH.rsO H (by (repeat first | exact At.here | apply At.there); done) | exact (Rs.nil : Rs Non _ _ _)) (by assumption) (by rfl) | assumption)) H ?_
      refine DL.take (i := 4) [] rfl (by kernel_rfl) (by kernel_rfl) (by kernel_rfl) (by kernel_rfl) rfl rfl (fun u H => x_move ) H ?_
      refine DL.take (i := 5) [] rfl (by kernel_rfl) (by kernel_rfl) (by kernel_rfl) (by kernel_rfl) rfl rfl (fun u H => x_move ) H ?_
      refine DL.take (i := 6) [] rfl (by kernel_rfl) (by kernel_rfl) (by kernel_rfl) (by kernel_rfl) rfl rfl (fun u H => x_indexAddrV Try.underlying41 (by simp only [upd_get, ev, Nat.reduceEqDiff, ↓reduceIte] <;> rfl) rfl (by first | assumption | exact SH.rsR H (by (repeat first | exact At.here | apply At.there); done) | exact SH.rsO H (by (repeat first | exact At.here | apply At.there); done) | exact (Rs.nil : Rs Non _ _ _)) (by exact Try.sizeOf3) (by omega) (by omega)) H ?_
      refine DL.take (i := 7) [] rfl (by kernel_rfl) (by kernel_rfl) (by kernel_rfl) (by kernel_rfl) rfl rfl (fun u H => x_load Try.isAgg3 rfl (by first | exact Rs.cell (by first | assumption | exact SH.rsR H (by (repeat first | exact At.here | apply At.there); done) | exact SH.rsO H (by (repeat first | exact At.here | apply At.there); done) | exact (Rs.nil : Rs Non _ _ _)) (by assumption) (by rfl) | exact Rs.cell0 (by first | assumption | exact SH.rsR H (by (repeat first | exact At.here | apply At.there); done) | exact SH.rsO H (by (repeat first | exact At.here | apply At.there); done) | exact (Rs.nil : Rs Non _ _ _)) (by assumption) (by rfl) | assumption)) H ?_
      refine DL.take (i := 8) [] rfl (by kernel_rfl) (by kernel_rfl) (by kernel_rfl) (by kernel_rfl) rfl rfl (fun u H => x_neq rfl rfl) H ?_
      refine DL.done (by kernel_rfl) ?_
      refine thenE_norm ?_
      refine cut (K := K10) [0, 1, 5, 25] (fun σ => ?_)
      simp only [setL, keepE, upd_get, ev, Nat.reduceEqDiff, ↓reduceIte]
      refine h10 _ _ ?_; clear h10; try clear K10
      refine CW.cond rfl (fun hc3 => ?_) (fun hc3 => ?_)
      · try simp only [decide_eq_true_eq, decide_eq_false_iff_not, Bool.and_eq_true, Bool.or_eq_true, Bool.and_eq_false_iff, Bool.or_eq_false_iff, Bool.not_eq_true', Bool.not_eq_false', beq_iff_eq, bne_iff_ne, ne_eq, Decidable.not_not] at hc3
        refine CW.seq (fun K11 h11 => ?_)
        refine CW.region ?_
        refine r_assign rfl ?_
        refine LW.nil ?_
        refine thenE_norm (h11 _ _ ?_); clear h11; try clear K11
        refine CW.ret (blockE_ret (thenE_ret (thenE_ret (blockE_ret (thenE_ret (ret1 Try.results39 (by simp only [upd_get, ev, Nat.reduceEqDiff, ↓reduceIte]; rfl) ?_))))))
        exact ⟨by rw [decide_eq_false (fun e => hc3 (by rw [e, hy] at hx; cases hx; rfl))], H.ext⟩
      · try simp only [decide_eq_true_eq, decide_eq_false_iff_not, Bool.and_eq_true, Bool.or_eq_true, Bool.and_eq_false_iff, Bool.or_eq_false_iff, Bool.not_eq_true', Bool.not_eq_false', beq_iff_eq, bne_iff_ne, ne_eq, Decidable.not_not] at hc3
        refine CW.skip ?_
        refine blockE_norm ?_
        refine thenE_norm (h9 _ _ ?_); clear h9; try clear K9
        refine CW.region ?_
        refine r_move rfl ?_
        refine r_add rfl rfl rfl (wr_i64 (by omega) (by omega)) ?_
        refine r_assign rfl ?_
        refine LW.nil ?_
        refine thenE_norm ⟨rfl, ?_⟩
        exact ⟨_, by omega, i + 1, rfl, by omega, rfl, by rw [V.take_snoc hx, V.take_snoc hy, hsame, hc3], H⟩
    · try simp only [decide_eq_true_eq, decide_eq_false_iff_not, Bool.and_eq_true, Bool.or_eq_true, Bool.and_eq_false_iff, Bool.or_eq_false_iff, Bool.not_eq_true', Bool.not_eq_false', beq_iff_eq, bne_iff_ne, ne_eq, Decidable.not_not] at hc2
      refine CW.exit (thenE_exit (thenE_exit (blockE_hit ?_)))
      refine thenE_norm (h5 _ _ ?_); clear h5; try clear K5
      refine CW.seq (fun K12 h12 => ?_)
      refine CW.region ?_
      refine r_assign rfl ?_
      refine LW.nil ?_
      refine thenE_norm (h12 _ _ ?_); clear h12; try clear K12
      refine CW.ret (ret1 Try.results39 (by simp only [upd_get, ev, Nat.reduceEqDiff, ↓reduceIte]; rfl) ?_)
      obtain rfl : i = xs.length := by omega
      rw [List.take_length, show xs.length = ys.length from by omega, List.take_length] at hsame
      exact ⟨by rw [decide_eq_true hsame], H.ext⟩
def bat4 : Bat := ⟨false, 0, ⟨0, 0⟩, 4, .slice none 0 0⟩
theorem ah1 : hearM ⟨3, 0, []⟩ 0 5 1 ⟨false, 0, ⟨0, 0⟩, 4, .slice none 0 0⟩ [] = (⟨3, 0, [(1, ⟨5, false, 0, ⟨0, 0⟩, 4, [], [0]⟩)]⟩, 0) := by rfl
theorem ah2 : hearM ⟨3, 0, [(1, ⟨5, false, 0, ⟨0, 0⟩, 4, [], [0]⟩)]⟩ 2 5 1 ⟨false, 0, ⟨0, 0⟩, 4, .slice none 0 0⟩ [] = (⟨3, 0, [(1, ⟨5, false, 0, ⟨0, 0⟩, 4, [], [0, 2]⟩)]⟩, 0) := by rfl
set_option maxHeartbeats 4000000 in
theorem awake15_c (w : World) : Calls Try.prog 22 #[] w fun e w' => e = .returned (.bool true) ∧ Ext0 w w' := by
  have H := SH.start (U := Non) (G := Any) w
  refine calls_of_CW Try.func22 rfl Try.ntmps22 (Nat.le_of_ble_eq_true rfl) ?_
  simp only [argE, argFrom, Nat.reduceAdd]
  refine CW.seq (fun K1 h1 => ?_)
  refine CW.region ?_
  refine r_assign rfl ?_
  refine LW.nil ?_
  refine thenE_norm (h1 _ _ ?_); clear h1; try clear K1
  refine CW.seq (fun K2 h2 => ?_)
  refine CW.region ?_
  refine r_call rfl Try.call21 (by simp only [List.map_cons, List.map_nil, List.map_toArray, List.toList_toArray, upd_get, ev, Nat.reduceEqDiff, ↓reduceIte] <;> rfl) (LrnNew_c 3 _ (by decide)) ?_
  rintro _ w1_0 ⟨p, FN, rfl, K⟩
  refine ⟨_, rfl, ?_⟩
  replace H := SH.call H K
  clear K
  try dsimp only [replC, List.cons_append, List.nil_append, List.append_nil] at H
  refine r_assign rfl ?_
  refine LW.nil ?_
  refine thenE_norm (h2 _ _ ?_); clear h2; try clear K2
  refine CW.seq (fun K3 h3 => ?_)
  refine CW.seq (fun K4 h4 => ?_)
  refine CW.region ?_
  refine r_move rfl ?_
  refine r_eqlP rfl Try.underlying42 rfl rfl ?_
  refine LW.nil ?_
  refine thenE_norm (h4 _ _ ?_); clear h4; try clear K4
  refine CW.condF rfl (by first | rfl | (simp only [decide_eq_true_eq, decide_eq_false_iff_not, Bool.and_eq_true, Bool.or_eq_true, Bool.and_eq_false_iff, Bool.or_eq_false_iff, Bool.not_eq_true', Bool.not_eq_false', beq_iff_eq, bne_iff_ne]; omega) | simp_all) ?_
  refine CW.skip ?_
  refine thenE_norm (h3 _ _ ?_); clear h3; try clear K3
  refine CW.seq (fun K5 h5 => ?_)
  refine CW.region ?_
  refine r_buildQ rfl Try.underlying27 Try.zeroValue27 rfl (pl := [(0, 1), (1, 1), (2, 2), (4, 1), (5, 1)]) (by intro w; simp [go_sem]) (qs := [(3, [_])]) (cs := [.bool false, .int .i64 0, .int .i64 0, .int .i64 0, _, .slice none 0 0]) ⟨rfl, cells_one (by simp only [upd_get, ev, Nat.reduceEqDiff, ↓reduceIte] <;> rfl) (by first | rfl | exact Rs.oneC (by first | assumption | exact SH.rsR H (by (repeat first | exact At.here | apply At.there); done) | exact SH.rsO H (by (repeat first | exact At.here | apply At.there); done) | exact (Rs.nil : Rs Non _ _ _))), trivial⟩ rfl ?_
  refine s_alloc (cs := [.bool false, .int .i64 0, .int .i64 0, .int .i64 0, .int .i64 0, .slice none 0 0]) H rfl Try.zeroValue27 rfl ?_
  clear H
  intro b4_1 w4_1 H
  try dsimp only [replC, List.cons_append, List.nil_append, List.append_nil, agg, cellsL, Value.cells, List.toList_toArray, List.set_cons_zero, List.set_cons_succ, spliceL, List.take_succ_cons, List.take_zero, List.drop_succ_cons, List.drop_zero, List.length_cons, List.length_nil, Nat.reduceAdd, Row.cells, Cm.L, Rq.L, Tp.L, Bat.L, Ty.L] at H
  refine s_storeA H Try.sizeOf27 rfl (by simp only [upd_get, ev, Nat.reduceEqDiff, ↓reduceIte] <;> rfl) (by simp only [cellsL, agg, List.toList_toArray, Row.cells, Cm.L, Rq.L, Tp.L, Bat.L, Ty.L] <;> rfl) (by rfl) (by first | rfl | assumption | exact Rs.oneC (by first | assumption | exact SH.rsR H (by (repeat first | exact At.here | apply At.there); done) | exact SH.rsO H (by (repeat first | exact At.here | apply At.there); done) | exact (Rs.nil : Rs Non _ _ _)) | (simp only [List.all_cons, List.all_nil, Bool.and_true, Bool.and_eq_true, Row.cells, Cm.L, Rq.L, Tp.L, Bat.L, Ty.L]; (repeat' constructor) <;> first | rfl | assumption | exact Rs.oneC (by first | assumption | exact SH.rsR H (by (repeat first | exact At.here | apply At.there); done) | exact SH.rsO H (by (repeat first | exact At.here | apply At.there); done) | exact (Rs.nil : Rs Non _ _ _)))) (by (repeat first | exact At.here | apply At.there); done) (by first | (simp; done) | decide | (show _ ≤ _; decide)) ?_
  clear H
  intro w4_2 H
  try dsimp only [replC, List.cons_append, List.nil_append, List.append_nil, agg, cellsL, Value.cells, List.toList_toArray, List.set_cons_zero, List.set_cons_succ, spliceL, List.take_succ_cons, List.take_zero, List.drop_succ_cons, List.drop_zero, List.length_cons, List.length_nil, Nat.reduceAdd, Row.cells, Cm.L, Rq.L, Tp.L, Bat.L, Ty.L] at H
  refine LW.nil ?_
  refine thenE_norm ?_
  refine cut (K := K5) [1, 2] (fun σ => ?_)
  simp only [setL, keepE, upd_get, ev, Nat.reduceEqDiff, ↓reduceIte]
  refine h5 _ _ ?_; clear h5; try clear K5
  refine CW.seq (fun K6 h6 => ?_)
  refine CW.region ?_
  refine r_move rfl ?_
  refine r_loadA rfl Try.isAgg27 Try.sizeOf27 rfl (by first | exact SH.cells H (by (repeat first | exact At.here | apply At.there); done)) (by rfl) ?_
  refine r_call rfl Try.call23 (by simp only [List.map_cons, List.map_nil, List.map_toArray, List.toList_toArray, upd_get, ev, Nat.reduceEqDiff, ↓reduceIte] <;> rfl) (Hear_c (F2 := Non) 0 5 1 ⟨_, _, ⟨_, _⟩, _, _⟩ _ (SH.prop H (i := 0) rfl) Rs.nil (fun _ h => h.elim) nil_small) ?_
  rintro _ w5_2 ⟨FN5_2, rfl, K⟩
  refine ⟨_, rfl, ?_⟩
  replace H := SH.updP H (i := 0) rfl K
  clear K
  try dsimp only [replC, List.cons_append, List.nil_append, List.append_nil] at H
  rw [ah1] at H ⊢
  dsimp only at H ⊢
  refine r_assign rfl ?_
  refine LW.nil ?_
  refine thenE_norm (h6 _ _ ?_); clear h6; try clear K6
  refine CW.seq (fun K7 h7 => ?_)
  refine CW.region ?_
  refine r_move rfl ?_
  refine r_call rfl Try.call24 (by simp only [List.map_cons, List.map_nil, List.map_toArray, List.toList_toArray, upd_get, ev, Nat.reduceEqDiff, ↓reduceIte] <;> rfl) (Chosen_c _ _ (SH.prop H (by (repeat first | exact At.here | apply At.there); done))) ?_
  rintro _ w6_1 ⟨v6_1, g6_1, rfl, K⟩
  refine ⟨_, rfl, ?_⟩
  replace H := SH.call H K
  clear K
  try dsimp only [replC, List.cons_append, List.nil_append, List.append_nil] at H
  refine r_move rfl ?_
  refine r_extract rfl (by simp only [upd_get, ev, Nat.reduceEqDiff, ↓reduceIte] <;> rfl) (by simp only [List.getElem?_toArray, List.getElem?_cons_zero, List.getElem?_cons_succ] <;> rfl) ?_
  refine r_extract rfl (by simp only [upd_get, ev, Nat.reduceEqDiff, ↓reduceIte] <;> rfl) (by simp only [List.getElem?_toArray, List.getElem?_cons_zero, List.getElem?_cons_succ] <;> rfl) ?_
  refine s_alloc (cs := [.bool false, .int .i64 0, .int .i64 0, .int .i64 0, .int .i64 0, .slice none 0 0]) H rfl Try.zeroValue27 rfl ?_
  clear H
  intro b6_5 w6_5 H
  try dsimp only [replC, List.cons_append, List.nil_append, List.append_nil, agg, cellsL, Value.cells, List.toList_toArray, List.set_cons_zero, List.set_cons_succ, spliceL, List.take_succ_cons, List.take_zero, List.drop_succ_cons, List.drop_zero, List.length_cons, List.length_nil, Nat.reduceAdd, Row.cells, Cm.L, Rq.L, Tp.L, Bat.L, Ty.L] at H
  refine s_storeA H Try.sizeOf27 rfl (by simp only [upd_get, ev, Nat.reduceEqDiff, ↓reduceIte] <;> rfl) (by simp only [cellsL, agg, List.toList_toArray, Row.cells, Cm.L, Rq.L, Tp.L, Bat.L, Ty.L] <;> rfl) (by rfl) (by first | rfl | assumption | exact Rs.oneC (by first | assumption | exact SH.rsR H (by (repeat first | exact At.here | apply At.there); done) | exact SH.rsO H (by (repeat first | exact At.here | apply At.there); done) | exact (Rs.nil : Rs Non _ _ _)) | (simp only [List.all_cons, List.all_nil, Bool.and_true, Bool.and_eq_true, Row.cells, Cm.L, Rq.L, Tp.L, Bat.L, Ty.L]; (repeat' constructor) <;> first | rfl | assumption | exact Rs.oneC (by first | assumption | exact SH.rsR H (by (repeat first | exact At.here | apply At.there); done) | exact SH.rsO H (by (repeat first | exact At.here | apply At.there); done) | exact (Rs.nil : Rs Non _ _ _)))) (by (repeat first | exact At.here | apply At.there); done) (by first | (simp; done) | decide | (show _ ≤ _; decide)) ?_
  clear H
  intro w6_6 H
  try dsimp only [replC, List.cons_append, List.nil_append, List.append_nil, agg, cellsL, Value.cells, List.toList_toArray, List.set_cons_zero, List.set_cons_succ, spliceL, List.take_succ_cons, List.take_zero, List.drop_succ_cons, List.drop_zero, List.length_cons, List.length_nil, Nat.reduceAdd, Row.cells, Cm.L, Rq.L, Tp.L, Bat.L, Ty.L] at H
  refine r_assign rfl ?_
  refine LW.nil ?_
  refine thenE_norm ?_
  refine cut (K := K7) [1, 2, 3, 5] (fun σ => ?_)
  simp only [setL, keepE, upd_get, ev, Nat.reduceEqDiff, ↓reduceIte]
  refine h7 _ _ ?_; clear h7; try clear K7
  refine CW.seq (fun K8 h8 => ?_)
  refine CW.region ?_
  refine r_move rfl ?_
  refine r_loadA rfl Try.isAgg27 Try.sizeOf27 rfl (by first | exact SH.cells H (by (repeat first | exact At.here | apply At.there); done)) (by rfl) ?_
  refine r_call rfl Try.call23 (by simp only [List.map_cons, List.map_nil, List.map_toArray, List.toList_toArray, upd_get, ev, Nat.reduceEqDiff, ↓reduceIte] <;> rfl) (Hear_c (F2 := Non) 2 5 1 ⟨_, _, ⟨_, _⟩, _, _⟩ _ (SH.prop H (i := 0) rfl) Rs.nil (fun _ h => h.elim) nil_small) ?_
  rintro _ w7_2 ⟨FN7_2, rfl, K⟩
  refine ⟨_, rfl, ?_⟩
  replace H := SH.updP H (i := 0) rfl K
  clear K
  try dsimp only [replC, List.cons_append, List.nil_append, List.append_nil] at H
  rw [ah2] at H ⊢
  dsimp only at H ⊢
  refine r_assign rfl ?_
  refine LW.nil ?_
  refine thenE_norm (h8 _ _ ?_); clear h8; try clear K8
  refine CW.seq (fun K9 h9 => ?_)
  refine CW.region ?_
  refine r_move rfl ?_
  refine r_call rfl Try.call24 (by simp only [List.map_cons, List.map_nil, List.map_toArray, List.toList_toArray, upd_get, ev, Nat.reduceEqDiff, ↓reduceIte] <;> rfl) (Chosen_c _ _ (SH.prop H (by (repeat first | exact At.here | apply At.there); done))) ?_
  rintro _ w8_1 ⟨v8_1, g8_1, rfl, K⟩
  refine ⟨_, rfl, ?_⟩
  replace H := SH.call H K
  clear K
  try dsimp only [replC, List.cons_append, List.nil_append, List.append_nil] at H
  refine r_move rfl ?_
  refine r_extract rfl (by simp only [upd_get, ev, Nat.reduceEqDiff, ↓reduceIte] <;> rfl) (by simp only [List.getElem?_toArray, List.getElem?_cons_zero, List.getElem?_cons_succ] <;> rfl) ?_
  refine r_extract rfl (by simp only [upd_get, ev, Nat.reduceEqDiff, ↓reduceIte] <;> rfl) (by simp only [List.getElem?_toArray, List.getElem?_cons_zero, List.getElem?_cons_succ] <;> rfl) ?_
  refine s_alloc (cs := [.bool false, .int .i64 0, .int .i64 0, .int .i64 0, .int .i64 0, .slice none 0 0]) H rfl Try.zeroValue27 rfl ?_
  clear H
  intro b8_5 w8_5 H
  try dsimp only [replC, List.cons_append, List.nil_append, List.append_nil, agg, cellsL, Value.cells, List.toList_toArray, List.set_cons_zero, List.set_cons_succ, spliceL, List.take_succ_cons, List.take_zero, List.drop_succ_cons, List.drop_zero, List.length_cons, List.length_nil, Nat.reduceAdd, Row.cells, Cm.L, Rq.L, Tp.L, Bat.L, Ty.L] at H
  refine s_storeA H Try.sizeOf27 rfl (by simp only [upd_get, ev, Nat.reduceEqDiff, ↓reduceIte] <;> rfl) (by simp only [cellsL, agg, List.toList_toArray, Row.cells, Cm.L, Rq.L, Tp.L, Bat.L, Ty.L] <;> rfl) (by rfl) (by first | rfl | assumption | exact Rs.oneC (by first | assumption | exact SH.rsR H (by (repeat first | exact At.here | apply At.there); done) | exact SH.rsO H (by (repeat first | exact At.here | apply At.there); done) | exact (Rs.nil : Rs Non _ _ _)) | (simp only [List.all_cons, List.all_nil, Bool.and_true, Bool.and_eq_true, Row.cells, Cm.L, Rq.L, Tp.L, Bat.L, Ty.L]; (repeat' constructor) <;> first | rfl | assumption | exact Rs.oneC (by first | assumption | exact SH.rsR H (by (repeat first | exact At.here | apply At.there); done) | exact SH.rsO H (by (repeat first | exact At.here | apply At.there); done) | exact (Rs.nil : Rs Non _ _ _)))) (by (repeat first | exact At.here | apply At.there); done) (by first | (simp; done) | decide | (show _ ≤ _; decide)) ?_
  clear H
  intro w8_6 H
  try dsimp only [replC, List.cons_append, List.nil_append, List.append_nil, agg, cellsL, Value.cells, List.toList_toArray, List.set_cons_zero, List.set_cons_succ, spliceL, List.take_succ_cons, List.take_zero, List.drop_succ_cons, List.drop_zero, List.length_cons, List.length_nil, Nat.reduceAdd, Row.cells, Cm.L, Rq.L, Tp.L, Bat.L, Ty.L] at H
  refine r_assign rfl ?_
  refine LW.nil ?_
  refine thenE_norm ?_
  refine cut (K := K9) [1, 2, 3, 5, 6, 7, 8] (fun σ => ?_)
  simp only [setL, keepE, upd_get, ev, Nat.reduceEqDiff, ↓reduceIte]
  refine h9 _ _ ?_; clear h9; try clear K9
  refine CW.seq (fun K10 h10 => ?_)
  refine CW.region ?_
  refine r_move rfl ?_
  refine r_call rfl Try.call26 (by simp only [List.map_cons, List.map_nil, List.map_toArray, List.toList_toArray, upd_get, ev, Nat.reduceEqDiff, ↓reduceIte] <;> rfl) (Heard_c _ _ (SH.prop H (by (repeat first | exact At.here | apply At.there); done))) ?_
  rintro _ w9_1 ⟨v9_1, g9_1, rfl, K⟩
  refine ⟨_, rfl, ?_⟩
  replace H := SH.call H K
  clear K
  try dsimp only [replC, List.cons_append, List.nil_append, List.append_nil] at H
  refine r_move rfl ?_
  refine r_extract rfl (by simp only [upd_get, ev, Nat.reduceEqDiff, ↓reduceIte] <;> rfl) (by simp only [List.getElem?_toArray, List.getElem?_cons_zero, List.getElem?_cons_succ] <;> rfl) ?_
  refine r_extract rfl (by simp only [upd_get, ev, Nat.reduceEqDiff, ↓reduceIte] <;> rfl) (by simp only [List.getElem?_toArray, List.getElem?_cons_zero, List.getElem?_cons_succ] <;> rfl) ?_
  refine r_assign rfl ?_
  refine r_assign rfl ?_
  refine LW.nil ?_
  refine thenE_norm (h10 _ _ ?_); clear h10; try clear K10
  refine CW.seq (fun K11 h11 => ?_)
  refine CW.region ?_
  refine r_move rfl ?_
  refine r_eql rfl rfl rfl ?_
  refine r_move rfl ?_
  refine LW.known (t := 38) (c := true) rfl (by first | rfl | (simp only [decide_eq_true_eq, decide_eq_false_iff_not, Bool.and_eq_true, Bool.or_eq_true, Bool.and_eq_false_iff, Bool.or_eq_false_iff, Bool.not_eq_true', Bool.not_eq_false', beq_iff_eq, bne_iff_ne]; omega) | simp_all) (fun hg10_3 => ?_)
  refine LW.want rfl rfl hg10_3 ?_
  refine r_move rfl ?_
  refine LW.want rfl rfl hg10_3 ?_
  refine r_not rfl rfl ?_
  refine r_pickT rfl rfl hg10_3 ?_
  refine r_move rfl ?_
  refine LW.known (t := 42) (c := true) rfl (by first | rfl | (simp only [decide_eq_true_eq, decide_eq_false_iff_not, Bool.and_eq_true, Bool.or_eq_true, Bool.and_eq_false_iff, Bool.or_eq_false_iff, Bool.not_eq_true', Bool.not_eq_false', beq_iff_eq, bne_iff_ne]; omega) | simp_all) (fun hg10_7 => ?_)
  refine LW.want rfl rfl hg10_7 ?_
  refine r_move rfl ?_
  refine LW.want rfl rfl hg10_7 ?_
  refine r_eql rfl rfl rfl ?_
  refine r_pickT rfl rfl hg10_7 ?_
  refine r_move rfl ?_
  refine LW.known (t := 46) (c := true) rfl (by first | rfl | (simp only [decide_eq_true_eq, decide_eq_false_iff_not, Bool.and_eq_true, Bool.or_eq_true, Bool.and_eq_false_iff, Bool.or_eq_false_iff, Bool.not_eq_true', Bool.not_eq_false', beq_iff_eq, bne_iff_ne]; omega) | simp_all) (fun hg10_11 => ?_)
  refine LW.want rfl rfl hg10_11 ?_
  refine r_move rfl ?_
  refine r_pickT rfl rfl hg10_11 ?_
  refine r_move rfl ?_
  refine LW.known (t := 49) (c := true) rfl (by first | rfl | (simp only [decide_eq_true_eq, decide_eq_false_iff_not, Bool.and_eq_true, Bool.or_eq_true, Bool.and_eq_false_iff, Bool.or_eq_false_iff, Bool.not_eq_true', Bool.not_eq_false', beq_iff_eq, bne_iff_ne]; omega) | simp_all) (fun hg10_14 => ?_)
  refine LW.want rfl rfl hg10_14 ?_
  refine r_loadA rfl Try.isAgg27 Try.sizeOf27 rfl (by first | exact SH.cells H (by (repeat first | exact At.here | apply At.there); done)) (by rfl) ?_
  refine LW.want rfl rfl hg10_14 ?_
  refine r_loadA rfl Try.isAgg27 Try.sizeOf27 rfl (by first | exact SH.cells H (by (repeat first | exact At.here | apply At.there); done)) (by rfl) ?_
  refine LW.want rfl rfl hg10_14 ?_
  refine r_call rfl Try.call25 (by simp only [List.map_cons, List.map_nil, List.map_toArray, List.toList_toArray, upd_get, ev, Nat.reduceEqDiff, ↓reduceIte] <;> rfl) (SameBatR_c ⟨_, _, ⟨_, _⟩, _, _⟩ ⟨_, _, ⟨_, _⟩, _, _⟩ _ (SH.rsO H (i := 4) rfl) (Rs.nil : Rs Non _ _ _)) ?_
  rintro _ w10_16 ⟨rfl, X⟩
  refine ⟨_, rfl, ?_⟩
  replace H := SH.same H X
  clear X
  refine r_pickT rfl rfl hg10_14 ?_
  refine r_move rfl ?_
  refine LW.known (t := 54) (c := true) rfl (by first | rfl | (simp only [decide_eq_true_eq, decide_eq_false_iff_not, Bool.and_eq_true, Bool.or_eq_true, Bool.and_eq_false_iff, Bool.or_eq_false_iff, Bool.not_eq_true', Bool.not_eq_false', beq_iff_eq, bne_iff_ne]; omega) | simp_all) (fun hg10_19 => ?_)
  refine LW.want rfl rfl hg10_19 ?_
  refine r_move rfl ?_
  refine LW.want rfl rfl hg10_19 ?_
  refine r_eql rfl rfl rfl ?_
  refine r_pickT rfl rfl hg10_19 ?_
  refine r_move rfl ?_
  refine LW.known (t := 58) (c := true) rfl (by first | rfl | (simp only [decide_eq_true_eq, decide_eq_false_iff_not, Bool.and_eq_true, Bool.or_eq_true, Bool.and_eq_false_iff, Bool.or_eq_false_iff, Bool.not_eq_true', Bool.not_eq_false', beq_iff_eq, bne_iff_ne]; omega) | simp_all) (fun hg10_23 => ?_)
  refine LW.want rfl rfl hg10_23 ?_
  refine r_move rfl ?_
  refine LW.want rfl rfl hg10_23 ?_
  refine r_buildSlice rfl Try.underlying41 Try.sizeOf3 Try.zeroValue3 rfl rfl rfl (by simp only [List.map_cons, List.map_nil, List.toList_toArray, List.foldl_cons, List.foldl_nil, List.replicate_succ, List.replicate_zero, List.set_cons_zero, List.set_cons_succ, upd_get, ev, Nat.reduceEqDiff, ↓reduceIte] <;> rfl) ?_
  intro b10_24 w10_24 hb10_24 hs10_24 hE10_24 hB10_24
  replace H := SH.call H (SH.fromB hE10_24 hb10_24 hs10_24 hB10_24)
  clear hb10_24 hs10_24 hE10_24 hB10_24
  try dsimp only [replC, List.cons_append, List.nil_append, List.append_nil, agg, cellsL, Value.cells, List.toList_toArray, List.set_cons_zero, List.set_cons_succ, spliceL, List.take_succ_cons, List.take_zero, List.drop_succ_cons, List.drop_zero, List.length_cons, List.length_nil, Nat.reduceAdd, Row.cells, Cm.L, Rq.L, Tp.L, Bat.L, Ty.L] at H
  replace H := SH.row (b := b10_24) (xs := ([_, _] : List Int)) (n := 2) (cap := 2) H (by (repeat first | exact At.here | apply At.there); done) (by rfl) (by intro x hx; first | rfl | (simp at hx; done) | (simp only [List.mem_cons, List.not_mem_nil, or_false] at hx; rcases hx with rfl | rfl <;> first | rfl | exact (by first | rfl | assumption | exact Rs.oneC (by first | assumption | exact SH.rsR H (by (repeat first | exact At.here | apply At.there); done) | exact SH.rsO H (by (repeat first | exact At.here | apply At.there); done) | exact (Rs.nil : Rs Non _ _ _)) | (simp only [List.all_cons, List.all_nil, Bool.and_true, Bool.and_eq_true, Row.cells, Cm.L, Rq.L, Tp.L, Bat.L, Ty.L]; (repeat' constructor) <;> first | rfl | assumption | exact Rs.oneC (by first | assumption | exact SH.rsR H (by (repeat first | exact At.here | apply At.there); done) | exact SH.rsO H (by (repeat first | exact At.here | apply At.there); done) | exact (Rs.nil : Rs Non _ _ _)))))) (by rfl) rfl (by decide)
  try dsimp only [replC, List.cons_append, List.nil_append, List.append_nil, agg, cellsL, Value.cells, List.toList_toArray, List.set_cons_zero, List.set_cons_succ, spliceL, List.take_succ_cons, List.take_zero, List.drop_succ_cons, List.drop_zero, List.length_cons, List.length_nil, Nat.reduceAdd, Row.cells, Cm.L, Rq.L, Tp.L, Bat.L, Ty.L] at H
  refine LW.want rfl rfl hg10_23 ?_
  refine r_call rfl Try.call39 (by simp only [List.map_cons, List.map_nil, List.map_toArray, List.toList_toArray, upd_get, ev, Nat.reduceEqDiff, ↓reduceIte] <;> rfl) (SameInts_c _ (SH.rsO H (i := 6) rfl) (SH.rsO H (i := 7) rfl)) ?_
  rintro _ w10_25 ⟨rfl, X⟩
  refine ⟨_, rfl, ?_⟩
  replace H := SH.same H X
  clear X
  refine r_pickT rfl rfl hg10_23 ?_
  refine r_move rfl ?_
  refine LW.known (t := 63) (c := true) rfl (by first | rfl | (simp only [decide_eq_true_eq, decide_eq_false_iff_not, Bool.and_eq_true, Bool.or_eq_true, Bool.and_eq_false_iff, Bool.or_eq_false_iff, Bool.not_eq_true', Bool.not_eq_false', beq_iff_eq, bne_iff_ne]; omega) | simp_all) (fun hg10_28 => ?_)
  refine LW.want rfl rfl hg10_28 ?_
  refine r_call rfl Try.call21 (by simp only [List.map_cons, List.map_nil, List.map_toArray, List.toList_toArray, upd_get, ev, Nat.reduceEqDiff, ↓reduceIte] <;> rfl) (LrnNewZ_c 0 _ (by decide)) ?_
  rintro _ _ ⟨rfl, rfl⟩
  refine ⟨_, rfl, ?_⟩
  refine LW.want rfl rfl hg10_28 ?_
  refine r_eqlP rfl Try.underlying42 rfl rfl ?_
  refine r_pickT rfl rfl hg10_28 ?_
  refine r_assign rfl ?_
  refine LW.nil ?_
  refine thenE_norm ?_
  refine cut (K := K11) [0] (fun σ => ?_)
  simp only [setL, keepE, upd_get, ev, Nat.reduceEqDiff, ↓reduceIte]
  refine h11 _ _ ?_; clear h11; try clear K11
  refine CW.ret (ret1 Try.results22 (by simp only [upd_get, ev, Nat.reduceEqDiff, ↓reduceIte]; rfl) ?_)
  exact ⟨rfl, H.ext⟩
theorem trim00 (d : Int) (d0 : 0 ≤ d) (d1 : d ≤ 2305843009213693952) : trimL ⟨3, 0, []⟩ d = ⟨3, d, []⟩ := by
  rw [trimL]
  split
  · rename_i h
    have : d = 0 := by rcases h with h | h <;> ((try dsimp only at h); omega)
    rw [this]
  · rfl
def codeR (dn n : Int) : Int := if n ≤ dn then 11 else if dn + 9 < n then 5 else 0
theorem hear_fill {s : LnS} {i n : Int} {v : Value} (h3 : s.n = 3) (hi : 0 ≤ i ∧ i < 3) (n1 : 1 ≤ n) (n2 : n ≤ 2305843009213693952) : askL s i 1 n ⟨true, 0, ⟨0, 0⟩, 0, v⟩ [] :=
  ⟨⟨hi.1, by rw [h3]; exact hi.2⟩, by decide, ⟨n1, n2⟩, by rfl⟩
/-- What is kept of a learner: how many, up to where, and that nothing is chosen there. -/
structure RmS (s : LnS) (dn : Int) : Prop where
  n : s.n = 3
  d : s.done = dn
  no : chosenT 3 (lookM s.heard (dn + 1)) = false
  ol : oldT (lookM s.heard (dn + 1)) 1 = false
theorem room1 {dn n : Int} {v : Value} (d0 : 0 ≤ dn) (n1 : 1 ≤ n) (n2 : n ≤ 2305843009213693952) :
    (hearM ⟨3, dn, []⟩ 0 1 n ⟨true, 0, ⟨0, 0⟩, 0, v⟩ []).2 = codeR dn n ∧ RmS (hearM ⟨3, dn, []⟩ 0 1 n ⟨true, 0, ⟨0, 0⟩, 0, v⟩ []).1 dn := by
  have ha := hear_fill (s := ⟨3, dn, []⟩) (i := 0) (v := v) rfl (by decide) n1 n2
  rw [codeR]
  by_cases h1 : n ≤ dn
  · rw [hear_done ha (.inl h1), if_pos h1]
    exact ⟨rfl, rfl, rfl, rfl, rfl⟩
  · have hk : ¬ (n ≤ (⟨3, dn, []⟩ : LnS).done ∨ chosenT (⟨3, dn, []⟩ : LnS).n (lookM (⟨3, dn, []⟩ : LnS).heard n) = true) := by
      rintro (q | q)
      · exact h1 q
      · cases q
    by_cases h2 : dn + 9 < n
    · rw [hear_full ha hk (show 9 < n - dn by omega), if_neg h1, if_pos h2]
      exact ⟨rfl, rfl, rfl, rfl, rfl⟩
    · rw [hear_put ha hk (show ¬ 9 < n - dn by omega) (by show ¬ false = true; decide), if_neg h1, if_neg h2]
      refine ⟨rfl, rfl, rfl, ?_, ?_⟩
      · show chosenT 3 (lookM (setM [] n (insF (tyNew 1 ⟨true, 0, ⟨0, 0⟩, 0, v⟩ []) 0)) (dn + 1)) = false
        rw [look_put]
        split <;> rfl
      · show oldT (lookM (setM [] n (insF (tyNew 1 ⟨true, 0, ⟨0, 0⟩, 0, v⟩ []) 0)) (dn + 1)) 1 = false
        rw [look_put]
        split <;> rfl
theorem room2 {s : LnS} {dn i : Int} {v : Value} (h : RmS s dn) (d0 : 0 ≤ dn) (d1 : dn ≤ 65535) :
    (hearM s i 1 (dn + 1) ⟨true, 0, ⟨0, 0⟩, 0, v⟩ []).2 = (if 0 ≤ i ∧ i < 3 then 0 else 1) ∧ (hearM s i 1 (dn + 1) ⟨true, 0, ⟨0, 0⟩, 0, v⟩ []).1.done = dn := by
  by_cases hi : 0 ≤ i ∧ i < 3
  · have ha := hear_fill (s := s) (i := i) (v := v) h.n hi (show 1 ≤ dn + 1 by omega) (by omega)
    have hk : ¬ (dn + 1 ≤ s.done ∨ chosenT s.n (lookM s.heard (dn + 1)) = true) := by
      rintro (q | q)
      · rw [h.d] at q; omega
      · rw [h.n, h.no] at q; cases q
    rw [hear_put ha hk (by rw [h.d]; omega) (by rw [h.ol]; decide), if_pos hi]
    exact ⟨rfl, h.d⟩
  · rw [hear_no (fun q => hi ⟨q.1.1, by have := q.1.2; rw [h.n] at this; exact this⟩), if_neg hi]
    exact ⟨rfl, h.d⟩
theorem trim_low {s : LnS} {d : Int} (h : d ≤ s.done) : trimL s d = s := by rw [trimL, if_pos (.inl h)]
set_option maxHeartbeats 8000000 in
theorem LearnRoom_c (dn sl fr : Int) (w : World) (d0 : 0 ≤ dn) (d1 : dn < 65536) (s0 : 0 ≤ sl) (s1 : sl < 65536) :
    Calls Try.prog 9 #[.int .u16 dn, .int .u16 sl, .int .i64 fr] w fun e w' => e = .returned (.bool true) ∧ Ext0 w w' := by
  have H := SH.start (U := Non) (G := Any) w
  refine calls_of_CW Try.func9 rfl Try.ntmps9 (Nat.le_of_ble_eq_true rfl) ?_
  simp only [argE, argFrom, Nat.reduceAdd]
  refine CW.seq (fun K1 h1 => ?_)
  refine CW.region ?_
  refine r_assign rfl ?_
  refine LW.nil ?_
  refine thenE_norm (h1 _ _ ?_); clear h1; try clear K1
  refine CW.seq (fun K2 h2 => ?_)
  refine CW.region ?_
  refine r_call rfl Try.call21 (by simp only [List.map_cons, List.map_nil, List.map_toArray, List.toList_toArray, upd_get, ev, Nat.reduceEqDiff, ↓reduceIte] <;> rfl) (LrnNew_c 3 _ (by decide)) ?_
  rintro _ w1_0 ⟨p, FN, rfl, K⟩
  refine ⟨_, rfl, ?_⟩
  replace H := SH.call H K
  clear K
  try dsimp only [replC, List.cons_append, List.nil_append, List.append_nil] at H
  refine r_assign rfl ?_
  refine LW.nil ?_
  refine thenE_norm (h2 _ _ ?_); clear h2; try clear K2
  refine CW.seq (fun K3 h3 => ?_)
  refine CW.seq (fun K4 h4 => ?_)
  refine CW.region ?_
  refine r_move rfl ?_
  refine r_eqlP rfl Try.underlying42 rfl rfl ?_
  refine LW.nil ?_
  refine thenE_norm (h4 _ _ ?_); clear h4; try clear K4
  refine CW.condF rfl (by first | rfl | (simp only [decide_eq_true_eq, decide_eq_false_iff_not, Bool.and_eq_true, Bool.or_eq_true, Bool.and_eq_false_iff, Bool.or_eq_false_iff, Bool.not_eq_true', Bool.not_eq_false', beq_iff_eq, bne_iff_ne]; omega) | simp_all) ?_
  refine CW.skip ?_
  refine thenE_norm (h3 _ _ ?_); clear h3; try clear K3
  refine CW.seq (fun K5 h5 => ?_)
  refine CW.region ?_
  refine r_move rfl ?_
  refine r_move rfl ?_
  refine r_convI rfl Try.underlying40 Try.underlying3 rfl (wr_i64 (by omega) (by omega)) ?_
  refine r_call rfl Try.call34 (by simp only [List.map_cons, List.map_nil, List.map_toArray, List.toList_toArray, upd_get, ev, Nat.reduceEqDiff, ↓reduceIte] <;> rfl) (TrimL_c _ _ (SH.prop H (by (repeat first | exact At.here | apply At.there); done))) ?_
  rintro _ w4_3 ⟨FN4_3, rfl, K⟩
  refine ⟨_, rfl, ?_⟩
  replace H := SH.updP H (by (repeat first | exact At.here | apply At.there); done) K
  clear K
  try dsimp only [replC, List.cons_append, List.nil_append, List.append_nil] at H
  rw [trim00 dn d0 (by omega)] at H
  refine LW.nil ?_
  refine thenE_norm ?_
  refine cut (K := K5) [0, 1, 2, 7] (fun σ => ?_)
  simp only [setL, keepE, upd_get, ev, Nat.reduceEqDiff, ↓reduceIte]
  refine h5 _ _ ?_; clear h5; try clear K5
  refine CW.seq (fun K6 h6 => ?_)
  refine CW.region ?_
  refine r_move rfl ?_
  refine r_move rfl ?_
  refine r_convI rfl Try.underlying40 Try.underlying3 rfl (wr_i64 (by omega) (by omega)) ?_
  refine r_add rfl rfl rfl (wr_i64 (by omega) (by omega)) ?_
  refine r_buildQ rfl Try.underlying27 Try.zeroValue27 rfl (pl := [(0, 1), (1, 1), (2, 2), (4, 1), (5, 1)]) (by intro w; simp [go_sem]) (qs := [(0, [_])]) (cs := [_, .int .i64 0, .int .i64 0, .int .i64 0, .int .i64 0, .slice none 0 0]) ⟨rfl, cells_one (by simp only [upd_get, ev, Nat.reduceEqDiff, ↓reduceIte] <;> rfl) (by first | rfl | exact Rs.oneC (by first | assumption | exact SH.rsR H (by (repeat first | exact At.here | apply At.there); done) | exact SH.rsO H (by (repeat first | exact At.here | apply At.there); done) | exact (Rs.nil : Rs Non _ _ _))), trivial⟩ rfl ?_
  refine r_call rfl Try.call23 (by simp only [List.map_cons, List.map_nil, List.map_toArray, List.toList_toArray, upd_get, ev, Nat.reduceEqDiff, ↓reduceIte] <;> rfl) (Hear_c (F2 := Non) _ _ _ ⟨_, _, ⟨_, _⟩, _, _⟩ _ (SH.prop H (i := 0) rfl) Rs.nil (fun _ h => h.elim) nil_small) ?_
  rintro _ w5_5 ⟨FN5_5, rfl, K⟩
  refine ⟨_, rfl, ?_⟩
  replace H := SH.updP H (i := 0) rfl K
  clear K
  try dsimp only [replC, List.cons_append, List.nil_append, List.append_nil] at H
  obtain ⟨hcd1, hr1⟩ := room1 (v := .slice none 0 0) d0 (show 1 ≤ 1 + sl by omega) (by omega)
  generalize hearM ⟨3, dn, []⟩ 0 1 (1 + sl) ⟨true, 0, ⟨0, 0⟩, 0, .slice none 0 0⟩ [] = SC at *
  obtain ⟨S1, C1⟩ := SC
  dsimp only at hcd1 hr1 H ⊢
  refine r_assign rfl ?_
  refine LW.nil ?_
  refine thenE_norm (h6 _ _ ?_); clear h6; try clear K6
  refine CW.seq (fun K7 h7 => ?_)
  refine CW.region ?_
  refine r_assign rfl ?_
  refine LW.nil ?_
  refine thenE_norm ?_
  refine cut (K := K7) [0, 1, 2, 7, 8, 9] (fun σ => ?_)
  simp only [setL, keepE, upd_get, ev, Nat.reduceEqDiff, ↓reduceIte]
  refine h7 _ _ ?_; clear h7; try clear K7
  refine CW.seqJ [0, 2, 7, 8] [9] (fun vs w' => vs = [.int .i64 (codeR dn (1 + sl))] ∧ SH Non Any w w' [.P FN5_5 (LrnA p S1 FN5_5)]) ?_ ?_
  · refine CW.seq (fun K9 h9 => ?_)
    refine CW.region ?_
    refine r_move rfl ?_
    refine r_convI rfl Try.underlying40 Try.underlying3 rfl (wr_i64 (by omega) (by omega)) ?_
    refine r_add rfl rfl rfl (wr_i64 (by omega) (by omega)) ?_
    refine r_move rfl ?_
    refine r_convI rfl Try.underlying40 Try.underlying3 rfl (wr_i64 (by omega) (by omega)) ?_
    refine r_leq rfl rfl rfl ?_
    refine LW.nil ?_
    refine thenE_norm (h9 _ _ ?_); clear h9; try clear K9
    refine CW.cond rfl (fun hc2 => ?_) (fun hc2 => ?_)
    · try simp only [decide_eq_true_eq, decide_eq_false_iff_not, Bool.and_eq_true, Bool.or_eq_true, Bool.and_eq_false_iff, Bool.or_eq_false_iff, Bool.not_eq_true', Bool.not_eq_false', beq_iff_eq, bne_iff_ne, ne_eq, Decidable.not_not] at hc2
      refine CW.region ?_
      refine r_assign rfl ?_
      refine LW.nil ?_
      refine thenE_norm ?_
      exact ⟨rfl, by rw [codeR, if_pos (by omega)]; rfl, H⟩
    · try simp only [decide_eq_true_eq, decide_eq_false_iff_not, Bool.and_eq_true, Bool.or_eq_true, Bool.and_eq_false_iff, Bool.or_eq_false_iff, Bool.not_eq_true', Bool.not_eq_false', beq_iff_eq, bne_iff_ne, ne_eq, Decidable.not_not] at hc2
      refine CW.seq (fun K10 h10 => ?_)
      refine CW.region ?_
      refine r_move rfl ?_
      refine r_convI rfl Try.underlying40 Try.underlying3 rfl (wr_i64 (by omega) (by omega)) ?_
      refine r_add rfl rfl rfl (wr_i64 (by omega) (by omega)) ?_
      refine r_move rfl ?_
      refine r_convI rfl Try.underlying40 Try.underlying3 rfl (wr_i64 (by omega) (by omega)) ?_
      refine r_add rfl rfl rfl (wr_i64 (by omega) (by omega)) ?_
      refine r_gtr rfl rfl rfl ?_
      refine LW.nil ?_
      refine thenE_norm ?_
      refine cut (K := K10) [0, 2, 7, 8, 9, 41] (fun σ => ?_)
      simp only [setL, keepE, upd_get, ev, Nat.reduceEqDiff, ↓reduceIte]
      refine h10 _ _ ?_; clear h10; try clear K10
      refine CW.cond rfl (fun hc3 => ?_) (fun hc3 => ?_)
      · try simp only [decide_eq_true_eq, decide_eq_false_iff_not, Bool.and_eq_true, Bool.or_eq_true, Bool.and_eq_false_iff, Bool.or_eq_false_iff, Bool.not_eq_true', Bool.not_eq_false', beq_iff_eq, bne_iff_ne, ne_eq, Decidable.not_not] at hc3
        refine CW.region ?_
        refine r_assign rfl ?_
        refine LW.nil ?_
        refine thenE_norm ?_
        exact ⟨rfl, by rw [codeR, if_neg (by omega), if_pos (by omega)]; rfl, H⟩
      · try simp only [decide_eq_true_eq, decide_eq_false_iff_not, Bool.and_eq_true, Bool.or_eq_true, Bool.and_eq_false_iff, Bool.or_eq_false_iff, Bool.not_eq_true', Bool.not_eq_false', beq_iff_eq, bne_iff_ne, ne_eq, Decidable.not_not] at hc3
        refine CW.skip ?_
        refine thenE_norm ?_
        exact ⟨rfl, by rw [codeR, if_neg (by omega), if_neg (by omega)]; rfl, H⟩
  try clear H
  rintro vs wJ σ ⟨rfl, H⟩
  simp only [setL, keepE, upd_get, ev, Nat.reduceEqDiff, ↓reduceIte]
  refine CW.seq (fun K11 h11 => ?_)
  refine CW.region ?_
  refine r_move rfl ?_
  refine r_move rfl ?_
  refine r_move rfl ?_
  refine r_convI rfl Try.underlying40 Try.underlying3 rfl (wr_i64 (by omega) (by omega)) ?_
  refine r_add rfl rfl rfl (wr_i64 (by omega) (by omega)) ?_
  refine r_buildQ rfl Try.underlying27 Try.zeroValue27 rfl (pl := [(0, 1), (1, 1), (2, 2), (4, 1), (5, 1)]) (by intro w; simp [go_sem]) (qs := [(0, [_])]) (cs := [_, .int .i64 0, .int .i64 0, .int .i64 0, .int .i64 0, .slice none 0 0]) ⟨rfl, cells_one (by simp only [upd_get, ev, Nat.reduceEqDiff, ↓reduceIte] <;> rfl) (by first | rfl | exact Rs.oneC (by first | assumption | exact SH.rsR H (by (repeat first | exact At.here | apply At.there); done) | exact SH.rsO H (by (repeat first | exact At.here | apply At.there); done) | exact (Rs.nil : Rs Non _ _ _))), trivial⟩ rfl ?_
  refine r_call rfl Try.call23 (by simp only [List.map_cons, List.map_nil, List.map_toArray, List.toList_toArray, upd_get, ev, Nat.reduceEqDiff, ↓reduceIte] <;> rfl) (Hear_c (F2 := Non) _ _ _ ⟨_, _, ⟨_, _⟩, _, _⟩ _ (SH.prop H (i := 0) rfl) Rs.nil (fun _ h => h.elim) nil_small) ?_
  rintro _ w11_6 ⟨FN11_6, rfl, K⟩
  refine ⟨_, rfl, ?_⟩
  replace H := SH.updP H (i := 0) rfl K
  clear K
  try dsimp only [replC, List.cons_append, List.nil_append, List.append_nil] at H
  obtain ⟨hcd2, hr2⟩ := room2 (i := fr) (v := .slice none 0 0) hr1 d0 (by omega)
  rw [hcd2]
  generalize (hearM S1 fr 1 (dn + 1) ⟨true, 0, ⟨0, 0⟩, 0, .slice none 0 0⟩ []).1 = S2 at *
  refine r_assign rfl ?_
  refine LW.nil ?_
  refine thenE_norm ?_
  refine cut (K := K11) [0, 2, 7, 8, 9, 10] (fun σ => ?_)
  simp only [setL, keepE, upd_get, ev, Nat.reduceEqDiff, ↓reduceIte]
  refine h11 _ _ ?_; clear h11; try clear K11
  refine CW.seq (fun K12 h12 => ?_)
  refine CW.region ?_
  refine r_move rfl ?_
  refine r_move rfl ?_
  refine r_convI rfl Try.underlying40 Try.underlying3 rfl (wr_i64 (by omega) (by omega)) ?_
  refine r_sub rfl rfl rfl (wr_i64 (by omega) (by omega)) ?_
  refine r_call rfl Try.call34 (by simp only [List.map_cons, List.map_nil, List.map_toArray, List.toList_toArray, upd_get, ev, Nat.reduceEqDiff, ↓reduceIte] <;> rfl) (TrimL_c _ _ (SH.prop H (by (repeat first | exact At.here | apply At.there); done))) ?_
  rintro _ w12_4 ⟨FN12_4, rfl, K⟩
  refine ⟨_, rfl, ?_⟩
  replace H := SH.updP H (by (repeat first | exact At.here | apply At.there); done) K
  clear K
  try dsimp only [replC, List.cons_append, List.nil_append, List.append_nil] at H
  rw [trim_low (by rw [hr2]; omega)] at H
  refine LW.nil ?_
  refine thenE_norm (h12 _ _ ?_); clear h12; try clear K12
  refine CW.seq (fun K13 h13 => ?_)
  refine CW.region ?_
  refine r_assign rfl ?_
  refine LW.nil ?_
  refine thenE_norm (h13 _ _ ?_); clear h13; try clear K13
  refine CW.seq (fun K14 h14 => ?_)
  refine CW.region ?_
  refine r_move rfl ?_
  refine r_call rfl Try.call34 (by simp only [List.map_cons, List.map_nil, List.map_toArray, List.toList_toArray, upd_get, ev, Nat.reduceEqDiff, ↓reduceIte] <;> rfl) (TrimLZ_c 4 _) ?_
  rintro _ _ ⟨rfl, rfl⟩
  refine ⟨_, rfl, ?_⟩
  refine LW.nil ?_
  refine thenE_norm ?_
  refine cut (K := K14) [0, 2, 7, 8, 9, 10, 11] (fun σ => ?_)
  simp only [setL, keepE, upd_get, ev, Nat.reduceEqDiff, ↓reduceIte]
  refine h14 _ _ ?_; clear h14; try clear K14
  refine CW.seq (fun K15 h15 => ?_)
  refine CW.region ?_
  refine r_move rfl ?_
  refine r_call rfl Try.call24 (by simp only [List.map_cons, List.map_nil, List.map_toArray, List.toList_toArray, upd_get, ev, Nat.reduceEqDiff, ↓reduceIte] <;> rfl) (ChosenZ_c 1 _) ?_
  rintro _ w15_1 ⟨rfl, X⟩
  refine ⟨_, rfl, ?_⟩
  replace H := SH.same H X
  clear X
  refine r_move rfl ?_
  refine r_extract rfl (by simp only [upd_get, ev, Nat.reduceEqDiff, ↓reduceIte] <;> rfl) (by simp only [List.getElem?_toArray, List.getElem?_cons_zero, List.getElem?_cons_succ] <;> rfl) ?_
  refine r_extract rfl (by simp only [upd_get, ev, Nat.reduceEqDiff, ↓reduceIte] <;> rfl) (by simp only [List.getElem?_toArray, List.getElem?_cons_zero, List.getElem?_cons_succ] <;> rfl) ?_
  refine s_alloc (cs := [.bool false, .int .i64 0, .int .i64 0, .int .i64 0, .int .i64 0, .slice none 0 0]) H rfl Try.zeroValue27 rfl ?_
  clear H
  intro b15_5 w15_5 H
  try dsimp only [replC, List.cons_append, List.nil_append, List.append_nil, agg, cellsL, Value.cells, List.toList_toArray, List.set_cons_zero, List.set_cons_succ, spliceL, List.take_succ_cons, List.take_zero, List.drop_succ_cons, List.drop_zero, List.length_cons, List.length_nil, Nat.reduceAdd, Row.cells, Cm.L, Rq.L, Tp.L, Bat.L, Ty.L] at H
  refine s_storeA H Try.sizeOf27 rfl (by simp only [upd_get, ev, Nat.reduceEqDiff, ↓reduceIte] <;> rfl) (by simp only [cellsL, agg, List.toList_toArray, Row.cells, Cm.L, Rq.L, Tp.L, Bat.L, Ty.L] <;> rfl) (by rfl) (by first | rfl | assumption | exact Rs.oneC (by first | assumption | exact SH.rsR H (by (repeat first | exact At.here | apply At.there); done) | exact SH.rsO H (by (repeat first | exact At.here | apply At.there); done) | exact (Rs.nil : Rs Non _ _ _)) | (simp only [List.all_cons, List.all_nil, Bool.and_true, Bool.and_eq_true, Row.cells, Cm.L, Rq.L, Tp.L, Bat.L, Ty.L]; (repeat' constructor) <;> first | rfl | assumption | exact Rs.oneC (by first | assumption | exact SH.rsR H (by (repeat first | exact At.here | apply At.there); done) | exact SH.rsO H (by (repeat first | exact At.here | apply At.there); done) | exact (Rs.nil : Rs Non _ _ _)))) (by (repeat first | exact At.here | apply At.there); done) (by first | (simp; done) | decide | (show _ ≤ _; decide)) ?_
  clear H
  intro w15_6 H
  try dsimp only [replC, List.cons_append, List.nil_append, List.append_nil, agg, cellsL, Value.cells, List.toList_toArray, List.set_cons_zero, List.set_cons_succ, spliceL, List.take_succ_cons, List.take_zero, List.drop_succ_cons, List.drop_zero, List.length_cons, List.length_nil, Nat.reduceAdd, Row.cells, Cm.L, Rq.L, Tp.L, Bat.L, Ty.L] at H
  refine r_assign rfl ?_
  refine LW.nil ?_
  refine thenE_norm ?_
  refine cut (K := K15) [0, 2, 7, 8, 9, 10, 11, 13] (fun σ => ?_)
  simp only [setL, keepE, upd_get, ev, Nat.reduceEqDiff, ↓reduceIte]
  refine h15 _ _ ?_; clear h15; try clear K15
  refine CW.seq (fun K16 h16 => ?_)
  refine CW.region ?_
  refine r_move rfl ?_
  refine r_call rfl Try.call26 (by simp only [List.map_cons, List.map_nil, List.map_toArray, List.toList_toArray, upd_get, ev, Nat.reduceEqDiff, ↓reduceIte] <;> rfl) (HeardZ_c 1 _) ?_
  rintro _ _ ⟨rfl, rfl⟩
  refine ⟨_, rfl, ?_⟩
  refine r_move rfl ?_
  refine r_extract rfl (by simp only [upd_get, ev, Nat.reduceEqDiff, ↓reduceIte] <;> rfl) (by simp only [List.getElem?_toArray, List.getElem?_cons_zero, List.getElem?_cons_succ] <;> rfl) ?_
  refine r_extract rfl (by simp only [upd_get, ev, Nat.reduceEqDiff, ↓reduceIte] <;> rfl) (by simp only [List.getElem?_toArray, List.getElem?_cons_zero, List.getElem?_cons_succ] <;> rfl) ?_
  refine r_assign rfl ?_
  refine r_assign rfl ?_
  refine LW.nil ?_
  refine thenE_norm (h16 _ _ ?_); clear h16; try clear K16
  refine CW.seq (fun K17 h17 => ?_)
  by_cases hfr : 0 ≤ fr ∧ fr < 3
  · rw [if_pos hfr]
    refine CW.region ?_
    refine r_move rfl ?_
    refine r_move rfl ?_
    refine r_eql rfl rfl rfl ?_
    refine r_move rfl ?_
    refine LW.known (t := 69) (c := true) rfl (decide_eq_true hcd1) (fun hg17_4 => ?_)
    refine LW.want rfl rfl hg17_4 ?_
    refine r_move rfl ?_
    refine LW.want rfl rfl hg17_4 ?_
    refine r_eql rfl rfl rfl ?_
    refine LW.want rfl rfl hg17_4 ?_
    refine r_move rfl ?_
    refine LW.want rfl rfl hg17_4 ?_
    refine r_geq rfl rfl rfl ?_
    refine LW.want rfl rfl hg17_4 ?_
    refine r_move rfl ?_
    refine' LW.grpAnd (n := 3) (ts := [0, 7, 10, 11, 13, 14, 15, 69, 71, 80, 83, 88, 95, 101, 105, 109, 114, 119]) (d := 77) (tj := 74) rfl (fun hg17_9 => ?_) (fun hg17_9 => ?_) (fun σ => ?_)
    rotate_left
    · simp only [List.take_succ_cons, List.take_zero]
      have hg17_9P := hg17_9
      try simp only [decide_eq_true_eq, decide_eq_false_iff_not, Bool.and_eq_true, Bool.or_eq_true, Bool.and_eq_false_iff, Bool.or_eq_false_iff, Bool.not_eq_true', Bool.not_eq_false', beq_iff_eq, bne_iff_ne] at hg17_9P
      refine LW.want rfl rfl hg17_9 ?_
      refine r_move rfl ?_
      refine LW.want rfl rfl hg17_9 ?_
      refine r_lss rfl rfl rfl ?_
      refine LW.want rfl rfl hg17_4 ?_
      refine r_pickT rfl rfl hg17_9 ?_
      refine LW.nil (thenE_norm ⟨rfl, rfl, rfl⟩)
    · simp only [List.take_succ_cons, List.take_zero]
      refine LW.skip rfl (fun _ e => by cases e; decide) rfl hg17_9 ?_
      refine LW.skip rfl (fun _ e => by cases e; decide) rfl hg17_9 ?_
      refine LW.want rfl rfl hg17_4 ?_
      refine r_pickF rfl rfl hg17_9 ?_
      refine LW.nil (thenE_norm ⟨rfl, rfl, rfl⟩)
    simp only [setL, keepE, upd_get, ev, Nat.reduceEqDiff, ↓reduceIte]; simp only [List.drop_succ_cons, List.drop_zero]
    refine LW.want rfl rfl hg17_4 ?_
    refine r_eqlB rfl Try.underlying4 rfl rfl ?_
    refine r_pickT rfl rfl hg17_4 ?_
    refine r_move rfl ?_
    refine LW.known (t := 80) (c := true) rfl (by simp; omega) (fun hg17_15 => ?_)
    refine LW.want rfl rfl hg17_15 ?_
    refine r_move rfl ?_
    refine LW.want rfl rfl hg17_15 ?_
    refine r_eql rfl rfl rfl ?_
    refine LW.want rfl rfl hg17_15 ?_
    refine r_move rfl ?_
    refine' LW.grpOr (n := 3) (ts := [0, 7, 11, 13, 14, 15, 80, 88, 95, 101, 105, 109, 114, 119]) (d := 86) (tj := 83) rfl (fun hg17_18 => ?_) (fun hg17_18 => ?_) (fun σ => ?_)
    rotate_left
    · simp only [List.take_succ_cons, List.take_zero]
      have hg17_18P := hg17_18
      try simp only [decide_eq_true_eq, decide_eq_false_iff_not, Bool.and_eq_true, Bool.or_eq_true, Bool.and_eq_false_iff, Bool.or_eq_false_iff, Bool.not_eq_true', Bool.not_eq_false', beq_iff_eq, bne_iff_ne] at hg17_18P
      refine LW.want rfl rfl hg17_18 ?_
      refine r_move rfl ?_
      refine LW.want rfl rfl hg17_18 ?_
      refine r_eql rfl rfl rfl ?_
      refine LW.want rfl rfl hg17_15 ?_
      refine r_pickF rfl rfl hg17_18 ?_
      refine LW.nil (thenE_norm ⟨rfl, rfl, rfl⟩)
    · simp only [List.take_succ_cons, List.take_zero]
      refine LW.skip rfl (fun _ e => by cases e; decide) rfl hg17_18 ?_
      refine LW.skip rfl (fun _ e => by cases e; decide) rfl hg17_18 ?_
      refine LW.want rfl rfl hg17_15 ?_
      refine r_pickT rfl rfl hg17_18 ?_
      refine LW.nil (thenE_norm ⟨rfl, rfl, rfl⟩)
    simp only [setL, keepE, upd_get, ev, Nat.reduceEqDiff, ↓reduceIte]; simp only [List.drop_succ_cons, List.drop_zero]
    refine r_pickT rfl rfl hg17_15 ?_
    refine r_move rfl ?_
    refine LW.known (t := 88) (c := true) rfl (by first | rfl | (simp only [decide_eq_true_eq, decide_eq_false_iff_not, Bool.and_eq_true, Bool.or_eq_true, Bool.and_eq_false_iff, Bool.or_eq_false_iff, Bool.not_eq_true', Bool.not_eq_false', beq_iff_eq, bne_iff_ne]; omega) | simp_all) (fun hg17_23 => ?_)
    refine LW.want rfl rfl hg17_23 ?_
    refine r_move rfl ?_
    refine LW.want rfl rfl hg17_23 ?_
    refine r_call rfl Try.call40 (by simp only [List.map_cons, List.map_nil, List.map_toArray, List.toList_toArray, upd_get, ev, Nat.reduceEqDiff, ↓reduceIte] <;> rfl) (DoneL_c _ (SH.prop H (by (repeat first | exact At.here | apply At.there); done))) ?_
    rintro _ _ ⟨rfl, rfl⟩
    refine ⟨_, rfl, ?_⟩
    refine LW.want rfl rfl hg17_23 ?_
    refine r_move rfl ?_
    refine LW.want rfl rfl hg17_23 ?_
    refine r_convI rfl Try.underlying40 Try.underlying3 rfl (wr_i64 (by omega) (by omega)) ?_
    refine LW.want rfl rfl hg17_23 ?_
    refine r_eql rfl rfl rfl ?_
    refine r_pickT rfl rfl hg17_23 ?_
    refine r_move rfl ?_
    refine LW.known (t := 95) (c := true) rfl (by rw [hr2]; simp) (fun hg17_30 => ?_)
    refine LW.want rfl rfl hg17_30 ?_
    refine r_move rfl ?_
    refine LW.want rfl rfl hg17_30 ?_
    refine r_buildQ rfl Try.underlying27 Try.zeroValue27 rfl (pl := [(0, 1), (1, 1), (2, 2), (4, 1), (5, 1)]) (by intro w; simp [go_sem]) (qs := []) (cs := [.bool false, .int .i64 0, .int .i64 0, .int .i64 0, .int .i64 0, .slice none 0 0]) trivial rfl ?_
    refine LW.want rfl rfl hg17_30 ?_
    refine r_call rfl Try.call23 (by simp only [List.map_cons, List.map_nil, List.map_toArray, List.toList_toArray, upd_get, ev, Nat.reduceEqDiff, ↓reduceIte] <;> rfl) (HearZ_c 0 1 1 ⟨_, _, ⟨_, _⟩, _, _⟩ _ rfl) ?_
    rintro _ w17_32 ⟨rfl, X⟩
    refine ⟨_, rfl, ?_⟩
    replace H := SH.same H X
    clear X
    refine LW.want rfl rfl hg17_30 ?_
    refine r_eql rfl rfl rfl ?_
    refine r_pickT rfl rfl hg17_30 ?_
    refine r_move rfl ?_
    refine LW.known (t := 101) (c := true) rfl (by first | rfl | (simp only [decide_eq_true_eq, decide_eq_false_iff_not, Bool.and_eq_true, Bool.or_eq_true, Bool.and_eq_false_iff, Bool.or_eq_false_iff, Bool.not_eq_true', Bool.not_eq_false', beq_iff_eq, bne_iff_ne]; omega) | simp_all) (fun hg17_36 => ?_)
    refine LW.want rfl rfl hg17_36 ?_
    refine r_move rfl ?_
    refine LW.want rfl rfl hg17_36 ?_
    refine r_not rfl rfl ?_
    refine r_pickT rfl rfl hg17_36 ?_
    refine r_move rfl ?_
    refine LW.known (t := 105) (c := true) rfl (by first | rfl | (simp only [decide_eq_true_eq, decide_eq_false_iff_not, Bool.and_eq_true, Bool.or_eq_true, Bool.and_eq_false_iff, Bool.or_eq_false_iff, Bool.not_eq_true', Bool.not_eq_false', beq_iff_eq, bne_iff_ne]; omega) | simp_all) (fun hg17_40 => ?_)
    refine LW.want rfl rfl hg17_40 ?_
    refine r_move rfl ?_
    refine LW.want rfl rfl hg17_40 ?_
    refine r_eql rfl rfl rfl ?_
    refine r_pickT rfl rfl hg17_40 ?_
    refine r_move rfl ?_
    refine LW.known (t := 109) (c := true) rfl (by first | rfl | (simp only [decide_eq_true_eq, decide_eq_false_iff_not, Bool.and_eq_true, Bool.or_eq_true, Bool.and_eq_false_iff, Bool.or_eq_false_iff, Bool.not_eq_true', Bool.not_eq_false', beq_iff_eq, bne_iff_ne]; omega) | simp_all) (fun hg17_44 => ?_)
    refine LW.want rfl rfl hg17_44 ?_
    refine r_move rfl ?_
    refine LW.want rfl rfl hg17_44 ?_
    first
      | refine r_lenV rfl Try.underlying41 (by simp only [upd_get, ev, Nat.reduceEqDiff, ↓reduceIte] <;> rfl) (by first | assumption | exact SH.rsR H (by (repeat first | exact At.here | apply At.there); done) | exact SH.rsO H (by (repeat first | exact At.here | apply At.there); done) | exact (Rs.nil : Rs Non _ _ _)) ?_
      | refine r_len rfl Try.underlying41 rfl ?_
    refine LW.want rfl rfl hg17_44 ?_
    refine r_eql rfl rfl rfl ?_
    refine r_pickT rfl rfl hg17_44 ?_
    refine r_move rfl ?_
    refine LW.known (t := 114) (c := true) rfl (by first | rfl | (simp only [decide_eq_true_eq, decide_eq_false_iff_not, Bool.and_eq_true, Bool.or_eq_true, Bool.and_eq_false_iff, Bool.or_eq_false_iff, Bool.not_eq_true', Bool.not_eq_false', beq_iff_eq, bne_iff_ne]; omega) | simp_all) (fun hg17_49 => ?_)
    refine LW.want rfl rfl hg17_49 ?_
    refine r_move rfl ?_
    refine LW.want rfl rfl hg17_49 ?_
    refine r_call rfl Try.call40 (by simp only [List.map_cons, List.map_nil, List.map_toArray, List.toList_toArray, upd_get, ev, Nat.reduceEqDiff, ↓reduceIte] <;> rfl) (DoneLZ_c _) ?_
    rintro _ _ ⟨rfl, rfl⟩
    refine ⟨_, rfl, ?_⟩
    refine LW.want rfl rfl hg17_49 ?_
    refine r_eql rfl rfl rfl ?_
    refine r_pickT rfl rfl hg17_49 ?_
    refine r_move rfl ?_
    refine LW.known (t := 119) (c := true) rfl (by first | rfl | (simp only [decide_eq_true_eq, decide_eq_false_iff_not, Bool.and_eq_true, Bool.or_eq_true, Bool.and_eq_false_iff, Bool.or_eq_false_iff, Bool.not_eq_true', Bool.not_eq_false', beq_iff_eq, bne_iff_ne]; omega) | simp_all) (fun hg17_54 => ?_)
    refine LW.want rfl rfl hg17_54 ?_
    refine r_call rfl Try.call22 (by simp only [List.map_cons, List.map_nil, List.map_toArray, List.toList_toArray, upd_get, ev, Nat.reduceEqDiff, ↓reduceIte] <;> rfl) (awake15_c _) ?_
    rintro _ w17_54 ⟨rfl, X⟩
    refine ⟨_, rfl, ?_⟩
    replace H := SH.same H X
    clear X
    refine r_pickT rfl rfl hg17_54 ?_
    refine r_assign rfl ?_
    refine LW.nil ?_
    refine thenE_norm ?_
    refine cut (K := K17) [6] (fun σ => ?_)
    simp only [setL, keepE, upd_get, ev, Nat.reduceEqDiff, ↓reduceIte]
    refine h17 _ _ ?_; clear h17; try clear K17
    refine CW.ret (ret1 Try.results9 (by simp only [upd_get, ev, Nat.reduceEqDiff, ↓reduceIte]; rfl) ?_)
    exact ⟨rfl, H.ext⟩
  · rw [if_neg hfr]
    refine CW.region ?_
    refine r_move rfl ?_
    refine r_move rfl ?_
    refine r_eql rfl rfl rfl ?_
    refine r_move rfl ?_
    refine LW.known (t := 69) (c := true) rfl (decide_eq_true hcd1) (fun hg17_4 => ?_)
    refine LW.want rfl rfl hg17_4 ?_
    refine r_move rfl ?_
    refine LW.want rfl rfl hg17_4 ?_
    refine r_eql rfl rfl rfl ?_
    refine LW.want rfl rfl hg17_4 ?_
    refine r_move rfl ?_
    refine LW.want rfl rfl hg17_4 ?_
    refine r_geq rfl rfl rfl ?_
    refine LW.want rfl rfl hg17_4 ?_
    refine r_move rfl ?_
    refine' LW.grpAnd (n := 3) (ts := [0, 7, 10, 11, 13, 14, 15, 69, 71, 80, 83, 88, 95, 101, 105, 109, 114, 119]) (d := 77) (tj := 74) rfl (fun hg17_9 => ?_) (fun hg17_9 => ?_) (fun σ => ?_)
    rotate_left
    · simp only [List.take_succ_cons, List.take_zero]
      have hg17_9P := hg17_9
      try simp only [decide_eq_true_eq, decide_eq_false_iff_not, Bool.and_eq_true, Bool.or_eq_true, Bool.and_eq_false_iff, Bool.or_eq_false_iff, Bool.not_eq_true', Bool.not_eq_false', beq_iff_eq, bne_iff_ne] at hg17_9P
      refine LW.want rfl rfl hg17_9 ?_
      refine r_move rfl ?_
      refine LW.want rfl rfl hg17_9 ?_
      refine r_lss rfl rfl rfl ?_
      refine LW.want rfl rfl hg17_4 ?_
      refine r_pickT rfl rfl hg17_9 ?_
      refine LW.nil (thenE_norm ⟨rfl, rfl, rfl⟩)
    · simp only [List.take_succ_cons, List.take_zero]
      refine LW.skip rfl (fun _ e => by cases e; decide) rfl hg17_9 ?_
      refine LW.skip rfl (fun _ e => by cases e; decide) rfl hg17_9 ?_
      refine LW.want rfl rfl hg17_4 ?_
      refine r_pickF rfl rfl hg17_9 ?_
      refine LW.nil (thenE_norm ⟨rfl, rfl, rfl⟩)
    simp only [setL, keepE, upd_get, ev, Nat.reduceEqDiff, ↓reduceIte]; simp only [List.drop_succ_cons, List.drop_zero]
    refine LW.want rfl rfl hg17_4 ?_
    refine r_eqlB rfl Try.underlying4 rfl rfl ?_
    refine r_pickT rfl rfl hg17_4 ?_
    refine r_move rfl ?_
    refine LW.known (t := 80) (c := true) rfl (by simp; omega) (fun hg17_15 => ?_)
    refine LW.want rfl rfl hg17_15 ?_
    refine r_move rfl ?_
    refine LW.want rfl rfl hg17_15 ?_
    refine r_eql rfl rfl rfl ?_
    refine LW.want rfl rfl hg17_15 ?_
    refine r_move rfl ?_
    refine' LW.grpOr (n := 3) (ts := [0, 7, 11, 13, 14, 15, 80, 88, 95, 101, 105, 109, 114, 119]) (d := 86) (tj := 83) rfl (fun hg17_18 => ?_) (fun hg17_18 => ?_) (fun σ => ?_)
    rotate_left
    · simp only [List.take_succ_cons, List.take_zero]
      have hg17_18P := hg17_18
      try simp only [decide_eq_true_eq, decide_eq_false_iff_not, Bool.and_eq_true, Bool.or_eq_true, Bool.and_eq_false_iff, Bool.or_eq_false_iff, Bool.not_eq_true', Bool.not_eq_false', beq_iff_eq, bne_iff_ne] at hg17_18P
      refine LW.want rfl rfl hg17_18 ?_
      refine r_move rfl ?_
      refine LW.want rfl rfl hg17_18 ?_
      refine r_eql rfl rfl rfl ?_
      refine LW.want rfl rfl hg17_15 ?_
      refine r_pickF rfl rfl hg17_18 ?_
      refine LW.nil (thenE_norm ⟨rfl, rfl, rfl⟩)
    · simp only [List.take_succ_cons, List.take_zero]
      refine LW.skip rfl (fun _ e => by cases e; decide) rfl hg17_18 ?_
      refine LW.skip rfl (fun _ e => by cases e; decide) rfl hg17_18 ?_
      refine LW.want rfl rfl hg17_15 ?_
      refine r_pickT rfl rfl hg17_18 ?_
      refine LW.nil (thenE_norm ⟨rfl, rfl, rfl⟩)
    simp only [setL, keepE, upd_get, ev, Nat.reduceEqDiff, ↓reduceIte]; simp only [List.drop_succ_cons, List.drop_zero]
    refine r_pickT rfl rfl hg17_15 ?_
    refine r_move rfl ?_
    refine LW.known (t := 88) (c := true) rfl (by first | rfl | (simp only [decide_eq_true_eq, decide_eq_false_iff_not, Bool.and_eq_true, Bool.or_eq_true, Bool.and_eq_false_iff, Bool.or_eq_false_iff, Bool.not_eq_true', Bool.not_eq_false', beq_iff_eq, bne_iff_ne]; omega) | simp_all) (fun hg17_23 => ?_)
    refine LW.want rfl rfl hg17_23 ?_
    refine r_move rfl ?_
    refine LW.want rfl rfl hg17_23 ?_
    refine r_call rfl Try.call40 (by simp only [List.map_cons, List.map_nil, List.map_toArray, List.toList_toArray, upd_get, ev, Nat.reduceEqDiff, ↓reduceIte] <;> rfl) (DoneL_c _ (SH.prop H (by (repeat first | exact At.here | apply At.there); done))) ?_
    rintro _ _ ⟨rfl, rfl⟩
    refine ⟨_, rfl, ?_⟩
    refine LW.want rfl rfl hg17_23 ?_
    refine r_move rfl ?_
    refine LW.want rfl rfl hg17_23 ?_
    refine r_convI rfl Try.underlying40 Try.underlying3 rfl (wr_i64 (by omega) (by omega)) ?_
    refine LW.want rfl rfl hg17_23 ?_
    refine r_eql rfl rfl rfl ?_
    refine r_pickT rfl rfl hg17_23 ?_
    refine r_move rfl ?_
    refine LW.known (t := 95) (c := true) rfl (by rw [hr2]; simp) (fun hg17_30 => ?_)
    refine LW.want rfl rfl hg17_30 ?_
    refine r_move rfl ?_
    refine LW.want rfl rfl hg17_30 ?_
    refine r_buildQ rfl Try.underlying27 Try.zeroValue27 rfl (pl := [(0, 1), (1, 1), (2, 2), (4, 1), (5, 1)]) (by intro w; simp [go_sem]) (qs := []) (cs := [.bool false, .int .i64 0, .int .i64 0, .int .i64 0, .int .i64 0, .slice none 0 0]) trivial rfl ?_
    refine LW.want rfl rfl hg17_30 ?_
    refine r_call rfl Try.call23 (by simp only [List.map_cons, List.map_nil, List.map_toArray, List.toList_toArray, upd_get, ev, Nat.reduceEqDiff, ↓reduceIte] <;> rfl) (HearZ_c 0 1 1 ⟨_, _, ⟨_, _⟩, _, _⟩ _ rfl) ?_
    rintro _ w17_32 ⟨rfl, X⟩
    refine ⟨_, rfl, ?_⟩
    replace H := SH.same H X
    clear X
    refine LW.want rfl rfl hg17_30 ?_
    refine r_eql rfl rfl rfl ?_
    refine r_pickT rfl rfl hg17_30 ?_
    refine r_move rfl ?_
    refine LW.known (t := 101) (c := true) rfl (by first | rfl | (simp only [decide_eq_true_eq, decide_eq_false_iff_not, Bool.and_eq_true, Bool.or_eq_true, Bool.and_eq_false_iff, Bool.or_eq_false_iff, Bool.not_eq_true', Bool.not_eq_false', beq_iff_eq, bne_iff_ne]; omega) | simp_all) (fun hg17_36 => ?_)
    refine LW.want rfl rfl hg17_36 ?_
    refine r_move rfl ?_
    refine LW.want rfl rfl hg17_36 ?_
    refine r_not rfl rfl ?_
    refine r_pickT rfl rfl hg17_36 ?_
    refine r_move rfl ?_
    refine LW.known (t := 105) (c := true) rfl (by first | rfl | (simp only [decide_eq_true_eq, decide_eq_false_iff_not, Bool.and_eq_true, Bool.or_eq_true, Bool.and_eq_false_iff, Bool.or_eq_false_iff, Bool.not_eq_true', Bool.not_eq_false', beq_iff_eq, bne_iff_ne]; omega) | simp_all) (fun hg17_40 => ?_)
    refine LW.want rfl rfl hg17_40 ?_
    refine r_move rfl ?_
    refine LW.want rfl rfl hg17_40 ?_
    refine r_eql rfl rfl rfl ?_
    refine r_pickT rfl rfl hg17_40 ?_
    refine r_move rfl ?_
    refine LW.known (t := 109) (c := true) rfl (by first | rfl | (simp only [decide_eq_true_eq, decide_eq_false_iff_not, Bool.and_eq_true, Bool.or_eq_true, Bool.and_eq_false_iff, Bool.or_eq_false_iff, Bool.not_eq_true', Bool.not_eq_false', beq_iff_eq, bne_iff_ne]; omega) | simp_all) (fun hg17_44 => ?_)
    refine LW.want rfl rfl hg17_44 ?_
    refine r_move rfl ?_
    refine LW.want rfl rfl hg17_44 ?_
    first
      | refine r_lenV rfl Try.underlying41 (by simp only [upd_get, ev, Nat.reduceEqDiff, ↓reduceIte] <;> rfl) (by first | assumption | exact SH.rsR H (by (repeat first | exact At.here | apply At.there); done) | exact SH.rsO H (by (repeat first | exact At.here | apply At.there); done) | exact (Rs.nil : Rs Non _ _ _)) ?_
      | refine r_len rfl Try.underlying41 rfl ?_
    refine LW.want rfl rfl hg17_44 ?_
    refine r_eql rfl rfl rfl ?_
    refine r_pickT rfl rfl hg17_44 ?_
    refine r_move rfl ?_
    refine LW.known (t := 114) (c := true) rfl (by first | rfl | (simp only [decide_eq_true_eq, decide_eq_false_iff_not, Bool.and_eq_true, Bool.or_eq_true, Bool.and_eq_false_iff, Bool.or_eq_false_iff, Bool.not_eq_true', Bool.not_eq_false', beq_iff_eq, bne_iff_ne]; omega) | simp_all) (fun hg17_49 => ?_)
    refine LW.want rfl rfl hg17_49 ?_
    refine r_move rfl ?_
    refine LW.want rfl rfl hg17_49 ?_
    refine r_call rfl Try.call40 (by simp only [List.map_cons, List.map_nil, List.map_toArray, List.toList_toArray, upd_get, ev, Nat.reduceEqDiff, ↓reduceIte] <;> rfl) (DoneLZ_c _) ?_
    rintro _ _ ⟨rfl, rfl⟩
    refine ⟨_, rfl, ?_⟩
    refine LW.want rfl rfl hg17_49 ?_
    refine r_eql rfl rfl rfl ?_
    refine r_pickT rfl rfl hg17_49 ?_
    refine r_move rfl ?_
    refine LW.known (t := 119) (c := true) rfl (by first | rfl | (simp only [decide_eq_true_eq, decide_eq_false_iff_not, Bool.and_eq_true, Bool.or_eq_true, Bool.and_eq_false_iff, Bool.or_eq_false_iff, Bool.not_eq_true', Bool.not_eq_false', beq_iff_eq, bne_iff_ne]; omega) | simp_all) (fun hg17_54 => ?_)
    refine LW.want rfl rfl hg17_54 ?_
    refine r_call rfl Try.call22 (by simp only [List.map_cons, List.map_nil, List.map_toArray, List.toList_toArray, upd_get, ev, Nat.reduceEqDiff, ↓reduceIte] <;> rfl) (awake15_c _) ?_
    rintro _ w17_54 ⟨rfl, X⟩
    refine ⟨_, rfl, ?_⟩
    replace H := SH.same H X
    clear X
    refine r_pickT rfl rfl hg17_54 ?_
    refine r_assign rfl ?_
    refine LW.nil ?_
    refine thenE_norm ?_
    refine cut (K := K17) [6] (fun σ => ?_)
    simp only [setL, keepE, upd_get, ev, Nat.reduceEqDiff, ↓reduceIte]
    refine h17 _ _ ?_; clear h17; try clear K17
    refine CW.ret (ret1 Try.results9 (by simp only [upd_get, ev, Nat.reduceEqDiff, ↓reduceIte]; rfl) ?_)
    exact ⟨rfl, H.ext⟩
end Go.Proofs.Ytalieccfdmokmaa
