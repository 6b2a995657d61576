/-
  The walks of layer 26's laws.
-/
import Derived.Test.YtcmnhneigojpoaaVNtB
namespace Go.Proofs.Ytcmnhneigojpoaa
set_option linter.unusedSimpArgs false
set_option linter.unusedVariables false
open Go.V Go.RowKit

set_option maxHeartbeats 2000000 in
theorem awake26_c (w : World) : Calls Try.prog 18 #[] w fun e w' => e = .returned (.bool true) ∧ Ext0 w w' := by
  have H := SH.start (U := Non) (G := Any) w
  refine calls_of_CW Try.func18 rfl Try.ntmps18 (Nat.le_of_ble_eq_true rfl) ?_
  simp only [argE, argFrom, Nat.reduceAdd]
  refine CW.seq (fun K1 h1 => ?_)
  refine CW.region ?_
  refine r_assign rfl ?_
  refine LW.nil ?_
  refine thenE_norm (h1 _ _ ?_); clear h1; try clear K1
  refine CW.seq (fun K2 h2 => ?_)
  refine CW.region ?_
  refine r_call rfl Try.call12 (by simp only [List.map_cons, List.map_nil, List.map_toArray, List.toList_toArray, upd_get, ev, Nat.reduceEqDiff, ↓reduceIte] <;> rfl) (NetNew_c _) ?_
  rintro _ w1_0 ⟨p, FN, rfl, K⟩
  refine ⟨_, rfl, ?_⟩
  replace H := SH.call H K
  clear K
  try dsimp only [replC, List.cons_append, List.nil_append, List.append_nil, agg, cellsL, Value.cells, List.toList_toArray, List.set_cons_zero, List.set_cons_succ, spliceL, List.take_succ_cons, List.take_zero, List.drop_succ_cons, List.drop_zero, List.length_cons, List.length_nil, Nat.reduceAdd, Row.cells, Flight.L] at H
  refine r_assign rfl ?_
  refine LW.nil ?_
  refine thenE_norm (h2 _ _ ?_); clear h2; try clear K2
  refine CW.seq (fun K3 h3 => ?_)
  refine CW.seq (fun K4 h4 => ?_)
  refine CW.region ?_
  refine r_move rfl ?_
  refine r_eqlP rfl Try.underlying23 rfl rfl ?_
  refine LW.nil ?_
  refine thenE_norm (h4 _ _ ?_); clear h4; try clear K4
  refine CW.condF rfl (by first | rfl | (simp only [decide_eq_true_eq, decide_eq_false_iff_not, Bool.and_eq_true, Bool.or_eq_true, Bool.and_eq_false_iff, Bool.or_eq_false_iff, Bool.not_eq_true', Bool.not_eq_false', beq_iff_eq, bne_iff_ne]; omega) | simp_all) ?_
  refine CW.skip ?_
  refine thenE_norm (h3 _ _ ?_); clear h3; try clear K3
  refine CW.seq (fun K5 h5 => ?_)
  refine CW.region ?_
  refine r_move rfl ?_
  refine r_buildSlice rfl Try.underlying22 Try.sizeOf5 Try.zeroValue5 rfl rfl rfl (by simp only [List.map_cons, List.map_nil, List.toList_toArray, List.foldl_cons, List.foldl_nil, List.replicate_succ, List.replicate_zero, List.set_cons_zero, List.set_cons_succ, upd_get, ev, Nat.reduceEqDiff, ↓reduceIte] <;> rfl) ?_
  intro b4_1 w4_1 hb4_1 hs4_1 hE4_1 hB4_1
  replace H := SH.call H (SH.fromB hE4_1 hb4_1 hs4_1 hB4_1)
  clear hb4_1 hs4_1 hE4_1 hB4_1
  try dsimp only [replC, List.cons_append, List.nil_append, List.append_nil, agg, cellsL, Value.cells, List.toList_toArray, List.set_cons_zero, List.set_cons_succ, spliceL, List.take_succ_cons, List.take_zero, List.drop_succ_cons, List.drop_zero, List.length_cons, List.length_nil, Nat.reduceAdd, Row.cells, Flight.L] at H
  replace H := SH.row (b := b4_1) (xs := ([4] : List UInt8)) (n := 1) (cap := 1) H (by repeat first | exact At.here | apply At.there) (by rfl) (by intro x hx; first | rfl | (simp at hx; done) | (simp only [List.mem_cons, List.not_mem_nil, or_false] at hx; rcases hx with rfl <;> first | rfl | exact (by first | rfl | exact Rs.oneC (by first | assumption | exact SH.rsR H (by repeat first | exact At.here | apply At.there) | exact SH.rsO H (by repeat first | exact At.here | apply At.there) | exact Rs.toH (by first | assumption | exact SH.rsR H (by repeat first | exact At.here | apply At.there) | exact SH.rsO H (by repeat first | exact At.here | apply At.there)) (by omega) | exact Rs.toL (by first | assumption | exact SH.rsR H (by repeat first | exact At.here | apply At.there) | exact SH.rsO H (by repeat first | exact At.here | apply At.there)) (by omega) | exact Rs.toLH (by first | assumption | exact SH.rsR H (by repeat first | exact At.here | apply At.there) | exact SH.rsO H (by repeat first | exact At.here | apply At.there)) (by omega) (by omega) | exact (Rs.nil : Rs Non _ _ _)) | (simp only [List.all_cons, List.all_nil, Bool.and_true, Bool.and_eq_true, Row.cells, Flight.L]; (repeat' constructor) <;> first | rfl | exact Rs.oneC (by first | assumption | exact SH.rsR H (by repeat first | exact At.here | apply At.there) | exact SH.rsO H (by repeat first | exact At.here | apply At.there) | exact Rs.toH (by first | assumption | exact SH.rsR H (by repeat first | exact At.here | apply At.there) | exact SH.rsO H (by repeat first | exact At.here | apply At.there)) (by omega) | exact Rs.toL (by first | assumption | exact SH.rsR H (by repeat first | exact At.here | apply At.there) | exact SH.rsO H (by repeat first | exact At.here | apply At.there)) (by omega) | exact Rs.toLH (by first | assumption | exact SH.rsR H (by repeat first | exact At.here | apply At.there) | exact SH.rsO H (by repeat first | exact At.here | apply At.there)) (by omega) (by omega) | exact (Rs.nil : Rs Non _ _ _)))))) (by rfl) rfl (by decide)
  try dsimp only [replC, List.cons_append, List.nil_append, List.append_nil, agg, cellsL, Value.cells, List.toList_toArray, List.set_cons_zero, List.set_cons_succ, spliceL, List.take_succ_cons, List.take_zero, List.drop_succ_cons, List.drop_zero, List.length_cons, List.length_nil, Nat.reduceAdd, Row.cells, Flight.L] at H
  refine r_buildQ rfl Try.underlying29 Try.zeroValue29 rfl (pl := [(0, 1), (1, 1), (2, 1), (3, 1)]) (by intro w; simp [go_sem]) (qs := [(0, [_]), (1, [_]), (2, [_]), (3, [_])]) (cs := [_, _, _, _]) ⟨rfl, cells_one (by simp only [upd_get, ev, Nat.reduceEqDiff, ↓reduceIte] <;> rfl) (by first | rfl | exact Rs.oneC (by first | assumption | exact SH.rsR H (by repeat first | exact At.here | apply At.there) | exact SH.rsO H (by repeat first | exact At.here | apply At.there) | exact Rs.toH (by first | assumption | exact SH.rsR H (by repeat first | exact At.here | apply At.there) | exact SH.rsO H (by repeat first | exact At.here | apply At.there)) (by omega) | exact Rs.toL (by first | assumption | exact SH.rsR H (by repeat first | exact At.here | apply At.there) | exact SH.rsO H (by repeat first | exact At.here | apply At.there)) (by omega) | exact Rs.toLH (by first | assumption | exact SH.rsR H (by repeat first | exact At.here | apply At.there) | exact SH.rsO H (by repeat first | exact At.here | apply At.there)) (by omega) (by omega) | exact (Rs.nil : Rs Non _ _ _))), rfl, cells_one (by simp only [upd_get, ev, Nat.reduceEqDiff, ↓reduceIte] <;> rfl) (by first | rfl | exact Rs.oneC (by first | assumption | exact SH.rsR H (by repeat first | exact At.here | apply At.there) | exact SH.rsO H (by repeat first | exact At.here | apply At.there) | exact Rs.toH (by first | assumption | exact SH.rsR H (by repeat first | exact At.here | apply At.there) | exact SH.rsO H (by repeat first | exact At.here | apply At.there)) (by omega) | exact Rs.toL (by first | assumption | exact SH.rsR H (by repeat first | exact At.here | apply At.there) | exact SH.rsO H (by repeat first | exact At.here | apply At.there)) (by omega) | exact Rs.toLH (by first | assumption | exact SH.rsR H (by repeat first | exact At.here | apply At.there) | exact SH.rsO H (by repeat first | exact At.here | apply At.there)) (by omega) (by omega) | exact (Rs.nil : Rs Non _ _ _))), rfl, cells_one (by simp only [upd_get, ev, Nat.reduceEqDiff, ↓reduceIte] <;> rfl) (by first | rfl | exact Rs.oneC (by first | assumption | exact SH.rsR H (by repeat first | exact At.here | apply At.there) | exact SH.rsO H (by repeat first | exact At.here | apply At.there) | exact Rs.toH (by first | assumption | exact SH.rsR H (by repeat first | exact At.here | apply At.there) | exact SH.rsO H (by repeat first | exact At.here | apply At.there)) (by omega) | exact Rs.toL (by first | assumption | exact SH.rsR H (by repeat first | exact At.here | apply At.there) | exact SH.rsO H (by repeat first | exact At.here | apply At.there)) (by omega) | exact Rs.toLH (by first | assumption | exact SH.rsR H (by repeat first | exact At.here | apply At.there) | exact SH.rsO H (by repeat first | exact At.here | apply At.there)) (by omega) (by omega) | exact (Rs.nil : Rs Non _ _ _))), rfl, cells_one (by simp only [upd_get, ev, Nat.reduceEqDiff, ↓reduceIte] <;> rfl) (by first | rfl | exact Rs.oneC (by first | assumption | exact SH.rsR H (by repeat first | exact At.here | apply At.there) | exact SH.rsO H (by repeat first | exact At.here | apply At.there) | exact Rs.toH (by first | assumption | exact SH.rsR H (by repeat first | exact At.here | apply At.there) | exact SH.rsO H (by repeat first | exact At.here | apply At.there)) (by omega) | exact Rs.toL (by first | assumption | exact SH.rsR H (by repeat first | exact At.here | apply At.there) | exact SH.rsO H (by repeat first | exact At.here | apply At.there)) (by omega) | exact Rs.toLH (by first | assumption | exact SH.rsR H (by repeat first | exact At.here | apply At.there) | exact SH.rsO H (by repeat first | exact At.here | apply At.there)) (by omega) (by omega) | exact (Rs.nil : Rs Non _ _ _))), trivial⟩ rfl ?_
  refine r_call rfl Try.call13 (by simp only [List.map_cons, List.map_nil, List.map_toArray, List.toList_toArray, upd_get, ev, Nat.reduceEqDiff, ↓reduceIte] <;> rfl) (Put_c ⟨_, _, _, _⟩ _ (SH.prop H (by repeat first | exact At.here | apply At.there)) (by first | assumption | exact SH.rsR H (by repeat first | exact At.here | apply At.there) | exact SH.rsO H (by repeat first | exact At.here | apply At.there) | exact Rs.toH (by first | assumption | exact SH.rsR H (by repeat first | exact At.here | apply At.there) | exact SH.rsO H (by repeat first | exact At.here | apply At.there)) (by omega) | exact Rs.toL (by first | assumption | exact SH.rsR H (by repeat first | exact At.here | apply At.there) | exact SH.rsO H (by repeat first | exact At.here | apply At.there)) (by omega) | exact Rs.toLH (by first | assumption | exact SH.rsR H (by repeat first | exact At.here | apply At.there) | exact SH.rsO H (by repeat first | exact At.here | apply At.there)) (by omega) (by omega) | exact (Rs.nil : Rs Non _ _ _)) (by first | exact SH.apartPO H (by repeat first | exact At.here | apply At.there) (by repeat first | exact At.here | apply At.there) (by decide) | exact SH.apartPR H (by repeat first | exact At.here | apply At.there) (by repeat first | exact At.here | apply At.there) (by decide) | exact fun _ h => h.elim) (by omega) (by omega)) ?_
  rintro _ w4_3 ⟨FN4_3, rfl, K⟩
  refine ⟨_, rfl, ?_⟩
  replace H := SH.updP H (by repeat first | exact At.here | apply At.there) K
  clear K
  try dsimp only [replC, List.cons_append, List.nil_append, List.append_nil, agg, cellsL, Value.cells, List.toList_toArray, List.set_cons_zero, List.set_cons_succ, spliceL, List.take_succ_cons, List.take_zero, List.drop_succ_cons, List.drop_zero, List.length_cons, List.length_nil, Nat.reduceAdd, Row.cells, Flight.L] at H
  rw [show netPut [] 0 ⟨1, 2, 3, [4]⟩ = ([⟨1, 2, 3, [4]⟩], 0, 0) from rfl] at H ⊢
  dsimp only at H ⊢
  refine r_assign rfl ?_
  refine LW.nil ?_
  refine thenE_norm ?_
  refine cut (K := K5) [1, 2] (fun σ => ?_)
  simp only [setL, keepE, upd_get, ev, Nat.reduceEqDiff, ↓reduceIte]
  refine h5 _ _ ?_; clear h5; try clear K5
  refine CW.seq (fun K6 h6 => ?_)
  refine CW.region ?_
  refine r_move rfl ?_
  refine r_call rfl Try.call19 (by simp only [List.map_cons, List.map_nil, List.map_toArray, List.toList_toArray, upd_get, ev, Nat.reduceEqDiff, ↓reduceIte] <;> rfl) (Twice_c _ _ (SH.prop H (by repeat first | exact At.here | apply At.there)) (by omega) (by omega)) ?_
  rintro _ w5_1 ⟨FN5_1, rfl, K⟩
  refine ⟨_, rfl, ?_⟩
  replace H := SH.updP H (by repeat first | exact At.here | apply At.there) K
  clear K
  try dsimp only [replC, List.cons_append, List.nil_append, List.append_nil, agg, cellsL, Value.cells, List.toList_toArray, List.set_cons_zero, List.set_cons_succ, spliceL, List.take_succ_cons, List.take_zero, List.drop_succ_cons, List.drop_zero, List.length_cons, List.length_nil, Nat.reduceAdd, Row.cells, Flight.L] at H
  rw [show netTwice [⟨1, 2, 3, [4]⟩] 0 0 = ([⟨1, 2, 3, [4]⟩, ⟨1, 2, 3, [4]⟩], 0, 0) from rfl] at H ⊢
  dsimp only at H ⊢
  refine r_assign rfl ?_
  refine LW.nil ?_
  refine thenE_norm (h6 _ _ ?_); clear h6; try clear K6
  refine CW.seq (fun K7 h7 => ?_)
  refine CW.region ?_
  refine r_move rfl ?_
  refine r_call rfl Try.call16 (by simp only [List.map_cons, List.map_nil, List.map_toArray, List.toList_toArray, upd_get, ev, Nat.reduceEqDiff, ↓reduceIte] <;> rfl) (Look_c _ _ (SH.prop H (by repeat first | exact At.here | apply At.there))) ?_
  rintro _ w6_1 ⟨v6_1, g6_1, rfl, K⟩
  refine ⟨_, rfl, ?_⟩
  replace H := SH.call H K
  clear K
  try dsimp only [replC, List.cons_append, List.nil_append, List.append_nil, agg, cellsL, Value.cells, List.toList_toArray, List.set_cons_zero, List.set_cons_succ, spliceL, List.take_succ_cons, List.take_zero, List.drop_succ_cons, List.drop_zero, List.length_cons, List.length_nil, Nat.reduceAdd, Row.cells, Flight.L] at H
  rw [show netAt [⟨1, 2, 3, [4]⟩, ⟨1, 2, 3, [4]⟩] 1 = (⟨1, 2, 3, [4]⟩, true) from rfl] at H ⊢
  dsimp only at H ⊢
  refine r_move rfl ?_
  refine r_extract rfl (by simp only [upd_get, ev, Nat.reduceEqDiff, ↓reduceIte] <;> rfl) (by simp only [List.getElem?_toArray, List.getElem?_cons_zero, List.getElem?_cons_succ] <;> rfl) ?_
  refine r_extract rfl (by simp only [upd_get, ev, Nat.reduceEqDiff, ↓reduceIte] <;> rfl) (by simp only [List.getElem?_toArray, List.getElem?_cons_zero, List.getElem?_cons_succ] <;> rfl) ?_
  refine s_alloc (cs := [.int .i64 0, .int .i64 0, .int .i64 0, .slice none 0 0]) H rfl Try.zeroValue29 rfl ?_
  clear H
  intro b6_5 w6_5 H
  try dsimp only [replC, List.cons_append, List.nil_append, List.append_nil, agg, cellsL, Value.cells, List.toList_toArray, List.set_cons_zero, List.set_cons_succ, spliceL, List.take_succ_cons, List.take_zero, List.drop_succ_cons, List.drop_zero, List.length_cons, List.length_nil, Nat.reduceAdd, Row.cells, Flight.L] at H
  refine s_storeA H Try.sizeOf29 rfl (by simp only [upd_get, ev, Nat.reduceEqDiff, ↓reduceIte] <;> rfl) (by simp only [cellsL, agg, List.toList_toArray, Row.cells, Flight.L] <;> rfl) (by rfl) (by first | rfl | exact Rs.oneC (by first | assumption | exact SH.rsR H (by repeat first | exact At.here | apply At.there) | exact SH.rsO H (by repeat first | exact At.here | apply At.there) | exact Rs.toH (by first | assumption | exact SH.rsR H (by repeat first | exact At.here | apply At.there) | exact SH.rsO H (by repeat first | exact At.here | apply At.there)) (by omega) | exact Rs.toL (by first | assumption | exact SH.rsR H (by repeat first | exact At.here | apply At.there) | exact SH.rsO H (by repeat first | exact At.here | apply At.there)) (by omega) | exact Rs.toLH (by first | assumption | exact SH.rsR H (by repeat first | exact At.here | apply At.there) | exact SH.rsO H (by repeat first | exact At.here | apply At.there)) (by omega) (by omega) | exact (Rs.nil : Rs Non _ _ _)) | (simp only [List.all_cons, List.all_nil, Bool.and_true, Bool.and_eq_true, Row.cells, Flight.L]; (repeat' constructor) <;> first | rfl | exact Rs.oneC (by first | assumption | exact SH.rsR H (by repeat first | exact At.here | apply At.there) | exact SH.rsO H (by repeat first | exact At.here | apply At.there) | exact Rs.toH (by first | assumption | exact SH.rsR H (by repeat first | exact At.here | apply At.there) | exact SH.rsO H (by repeat first | exact At.here | apply At.there)) (by omega) | exact Rs.toL (by first | assumption | exact SH.rsR H (by repeat first | exact At.here | apply At.there) | exact SH.rsO H (by repeat first | exact At.here | apply At.there)) (by omega) | exact Rs.toLH (by first | assumption | exact SH.rsR H (by repeat first | exact At.here | apply At.there) | exact SH.rsO H (by repeat first | exact At.here | apply At.there)) (by omega) (by omega) | exact (Rs.nil : Rs Non _ _ _)))) (by repeat first | exact At.here | apply At.there) (by first | (simp; done) | decide | (show _ ≤ _; decide)) ?_
  clear H
  intro w6_6 H
  try dsimp only [replC, List.cons_append, List.nil_append, List.append_nil, agg, cellsL, Value.cells, List.toList_toArray, List.set_cons_zero, List.set_cons_succ, spliceL, List.take_succ_cons, List.take_zero, List.drop_succ_cons, List.drop_zero, List.length_cons, List.length_nil, Nat.reduceAdd, Row.cells, Flight.L] at H
  refine r_assign rfl ?_
  refine LW.nil ?_
  refine thenE_norm ?_
  refine cut (K := K7) [1, 2, 3, 4, 5] (fun σ => ?_)
  simp only [setL, keepE, upd_get, ev, Nat.reduceEqDiff, ↓reduceIte]
  refine h7 _ _ ?_; clear h7; try clear K7
  refine CW.seq (fun K8 h8 => ?_)
  refine CW.region ?_
  refine r_move rfl ?_
  refine r_eql rfl rfl rfl ?_
  refine r_move rfl ?_
  refine LW.known (t := 22) (c := true) rfl (by first | rfl | (simp only [decide_eq_true_eq, decide_eq_false_iff_not, Bool.and_eq_true, Bool.or_eq_true, Bool.and_eq_false_iff, Bool.or_eq_false_iff, Bool.not_eq_true', Bool.not_eq_false', beq_iff_eq, bne_iff_ne]; omega) | simp_all) (fun hg7_3 => ?_)
  refine LW.want rfl rfl hg7_3 ?_
  refine r_move rfl ?_
  refine LW.want rfl rfl hg7_3 ?_
  refine r_eql rfl rfl rfl ?_
  refine r_pickT rfl rfl hg7_3 ?_
  refine r_move rfl ?_
  refine LW.known (t := 26) (c := true) rfl (by first | rfl | (simp only [decide_eq_true_eq, decide_eq_false_iff_not, Bool.and_eq_true, Bool.or_eq_true, Bool.and_eq_false_iff, Bool.or_eq_false_iff, Bool.not_eq_true', Bool.not_eq_false', beq_iff_eq, bne_iff_ne]; omega) | simp_all) (fun hg7_7 => ?_)
  refine LW.want rfl rfl hg7_7 ?_
  refine r_move rfl ?_
  refine LW.want rfl rfl hg7_7 ?_
  refine r_call rfl Try.call17 (by simp only [List.map_cons, List.map_nil, List.map_toArray, List.toList_toArray, upd_get, ev, Nat.reduceEqDiff, ↓reduceIte] <;> rfl) (Len_c _ (SH.prop H (by repeat first | exact At.here | apply At.there))) ?_
  rintro _ _ ⟨rfl, rfl⟩
  refine ⟨_, rfl, ?_⟩
  refine LW.want rfl rfl hg7_7 ?_
  refine r_eql rfl rfl rfl ?_
  refine r_pickT rfl rfl hg7_7 ?_
  refine r_move rfl ?_
  refine LW.known (t := 31) (c := true) rfl (by first | rfl | (simp only [decide_eq_true_eq, decide_eq_false_iff_not, Bool.and_eq_true, Bool.or_eq_true, Bool.and_eq_false_iff, Bool.or_eq_false_iff, Bool.not_eq_true', Bool.not_eq_false', beq_iff_eq, bne_iff_ne]; omega) | simp_all) (fun hg7_12 => ?_)
  refine LW.want rfl rfl hg7_12 ?_
  refine r_move rfl ?_
  refine r_pickT rfl rfl hg7_12 ?_
  refine r_move rfl ?_
  refine LW.known (t := 34) (c := true) rfl (by first | rfl | (simp only [decide_eq_true_eq, decide_eq_false_iff_not, Bool.and_eq_true, Bool.or_eq_true, Bool.and_eq_false_iff, Bool.or_eq_false_iff, Bool.not_eq_true', Bool.not_eq_false', beq_iff_eq, bne_iff_ne]; omega) | simp_all) (fun hg7_15 => ?_)
  refine LW.want rfl rfl hg7_15 ?_
  refine r_loadA rfl Try.isAgg29 Try.sizeOf29 rfl (by first | exact SH.cells H (by repeat first | exact At.here | apply At.there) | exact Rs.cells0 (by first | assumption | exact SH.rsR H (by repeat first | exact At.here | apply At.there) | exact SH.rsO H (by repeat first | exact At.here | apply At.there) | exact Rs.toH (by first | assumption | exact SH.rsR H (by repeat first | exact At.here | apply At.there) | exact SH.rsO H (by repeat first | exact At.here | apply At.there)) (by omega) | exact Rs.toL (by first | assumption | exact SH.rsR H (by repeat first | exact At.here | apply At.there) | exact SH.rsO H (by repeat first | exact At.here | apply At.there)) (by omega) | exact Rs.toLH (by first | assumption | exact SH.rsR H (by repeat first | exact At.here | apply At.there) | exact SH.rsO H (by repeat first | exact At.here | apply At.there)) (by omega) (by omega) | exact (Rs.nil : Rs Non _ _ _)) (by assumption)) (by rfl) ?_
  refine LW.want rfl rfl hg7_15 ?_
  refine r_buildSlice rfl Try.underlying22 Try.sizeOf5 Try.zeroValue5 rfl rfl rfl (by simp only [List.map_cons, List.map_nil, List.toList_toArray, List.foldl_cons, List.foldl_nil, List.replicate_succ, List.replicate_zero, List.set_cons_zero, List.set_cons_succ, upd_get, ev, Nat.reduceEqDiff, ↓reduceIte] <;> rfl) ?_
  intro b7_16 w7_16 hb7_16 hs7_16 hE7_16 hB7_16
  replace H := SH.call H (SH.fromB hE7_16 hb7_16 hs7_16 hB7_16)
  clear hb7_16 hs7_16 hE7_16 hB7_16
  try dsimp only [replC, List.cons_append, List.nil_append, List.append_nil, agg, cellsL, Value.cells, List.toList_toArray, List.set_cons_zero, List.set_cons_succ, spliceL, List.take_succ_cons, List.take_zero, List.drop_succ_cons, List.drop_zero, List.length_cons, List.length_nil, Nat.reduceAdd, Row.cells, Flight.L] at H
  replace H := SH.row (b := b7_16) (xs := ([4] : List UInt8)) (n := 1) (cap := 1) H (by repeat first | exact At.here | apply At.there) (by rfl) (by intro x hx; first | rfl | (simp at hx; done) | (simp only [List.mem_cons, List.not_mem_nil, or_false] at hx; rcases hx with rfl <;> first | rfl | exact (by first | rfl | exact Rs.oneC (by first | assumption | exact SH.rsR H (by repeat first | exact At.here | apply At.there) | exact SH.rsO H (by repeat first | exact At.here | apply At.there) | exact Rs.toH (by first | assumption | exact SH.rsR H (by repeat first | exact At.here | apply At.there) | exact SH.rsO H (by repeat first | exact At.here | apply At.there)) (by omega) | exact Rs.toL (by first | assumption | exact SH.rsR H (by repeat first | exact At.here | apply At.there) | exact SH.rsO H (by repeat first | exact At.here | apply At.there)) (by omega) | exact Rs.toLH (by first | assumption | exact SH.rsR H (by repeat first | exact At.here | apply At.there) | exact SH.rsO H (by repeat first | exact At.here | apply At.there)) (by omega) (by omega) | exact (Rs.nil : Rs Non _ _ _)) | (simp only [List.all_cons, List.all_nil, Bool.and_true, Bool.and_eq_true, Row.cells, Flight.L]; (repeat' constructor) <;> first | rfl | exact Rs.oneC (by first | assumption | exact SH.rsR H (by repeat first | exact At.here | apply At.there) | exact SH.rsO H (by repeat first | exact At.here | apply At.there) | exact Rs.toH (by first | assumption | exact SH.rsR H (by repeat first | exact At.here | apply At.there) | exact SH.rsO H (by repeat first | exact At.here | apply At.there)) (by omega) | exact Rs.toL (by first | assumption | exact SH.rsR H (by repeat first | exact At.here | apply At.there) | exact SH.rsO H (by repeat first | exact At.here | apply At.there)) (by omega) | exact Rs.toLH (by first | assumption | exact SH.rsR H (by repeat first | exact At.here | apply At.there) | exact SH.rsO H (by repeat first | exact At.here | apply At.there)) (by omega) (by omega) | exact (Rs.nil : Rs Non _ _ _)))))) (by rfl) rfl (by decide)
  try dsimp only [replC, List.cons_append, List.nil_append, List.append_nil, agg, cellsL, Value.cells, List.toList_toArray, List.set_cons_zero, List.set_cons_succ, spliceL, List.take_succ_cons, List.take_zero, List.drop_succ_cons, List.drop_zero, List.length_cons, List.length_nil, Nat.reduceAdd, Row.cells, Flight.L] at H
  refine LW.want rfl rfl hg7_15 ?_
  refine r_buildQ rfl Try.underlying29 Try.zeroValue29 rfl (pl := [(0, 1), (1, 1), (2, 1), (3, 1)]) (by intro w; simp [go_sem]) (qs := [(0, [_]), (1, [_]), (2, [_]), (3, [_])]) (cs := [_, _, _, _]) ⟨rfl, cells_one (by simp only [upd_get, ev, Nat.reduceEqDiff, ↓reduceIte] <;> rfl) (by first | rfl | exact Rs.oneC (by first | assumption | exact SH.rsR H (by repeat first | exact At.here | apply At.there) | exact SH.rsO H (by repeat first | exact At.here | apply At.there) | exact Rs.toH (by first | assumption | exact SH.rsR H (by repeat first | exact At.here | apply At.there) | exact SH.rsO H (by repeat first | exact At.here | apply At.there)) (by omega) | exact Rs.toL (by first | assumption | exact SH.rsR H (by repeat first | exact At.here | apply At.there) | exact SH.rsO H (by repeat first | exact At.here | apply At.there)) (by omega) | exact Rs.toLH (by first | assumption | exact SH.rsR H (by repeat first | exact At.here | apply At.there) | exact SH.rsO H (by repeat first | exact At.here | apply At.there)) (by omega) (by omega) | exact (Rs.nil : Rs Non _ _ _))), rfl, cells_one (by simp only [upd_get, ev, Nat.reduceEqDiff, ↓reduceIte] <;> rfl) (by first | rfl | exact Rs.oneC (by first | assumption | exact SH.rsR H (by repeat first | exact At.here | apply At.there) | exact SH.rsO H (by repeat first | exact At.here | apply At.there) | exact Rs.toH (by first | assumption | exact SH.rsR H (by repeat first | exact At.here | apply At.there) | exact SH.rsO H (by repeat first | exact At.here | apply At.there)) (by omega) | exact Rs.toL (by first | assumption | exact SH.rsR H (by repeat first | exact At.here | apply At.there) | exact SH.rsO H (by repeat first | exact At.here | apply At.there)) (by omega) | exact Rs.toLH (by first | assumption | exact SH.rsR H (by repeat first | exact At.here | apply At.there) | exact SH.rsO H (by repeat first | exact At.here | apply At.there)) (by omega) (by omega) | exact (Rs.nil : Rs Non _ _ _))), rfl, cells_one (by simp only [upd_get, ev, Nat.reduceEqDiff, ↓reduceIte] <;> rfl) (by first | rfl | exact Rs.oneC (by first | assumption | exact SH.rsR H (by repeat first | exact At.here | apply At.there) | exact SH.rsO H (by repeat first | exact At.here | apply At.there) | exact Rs.toH (by first | assumption | exact SH.rsR H (by repeat first | exact At.here | apply At.there) | exact SH.rsO H (by repeat first | exact At.here | apply At.there)) (by omega) | exact Rs.toL (by first | assumption | exact SH.rsR H (by repeat first | exact At.here | apply At.there) | exact SH.rsO H (by repeat first | exact At.here | apply At.there)) (by omega) | exact Rs.toLH (by first | assumption | exact SH.rsR H (by repeat first | exact At.here | apply At.there) | exact SH.rsO H (by repeat first | exact At.here | apply At.there)) (by omega) (by omega) | exact (Rs.nil : Rs Non _ _ _))), rfl, cells_one (by simp only [upd_get, ev, Nat.reduceEqDiff, ↓reduceIte] <;> rfl) (by first | rfl | exact Rs.oneC (by first | assumption | exact SH.rsR H (by repeat first | exact At.here | apply At.there) | exact SH.rsO H (by repeat first | exact At.here | apply At.there) | exact Rs.toH (by first | assumption | exact SH.rsR H (by repeat first | exact At.here | apply At.there) | exact SH.rsO H (by repeat first | exact At.here | apply At.there)) (by omega) | exact Rs.toL (by first | assumption | exact SH.rsR H (by repeat first | exact At.here | apply At.there) | exact SH.rsO H (by repeat first | exact At.here | apply At.there)) (by omega) | exact Rs.toLH (by first | assumption | exact SH.rsR H (by repeat first | exact At.here | apply At.there) | exact SH.rsO H (by repeat first | exact At.here | apply At.there)) (by omega) (by omega) | exact (Rs.nil : Rs Non _ _ _))), trivial⟩ rfl ?_
  refine LW.want rfl rfl hg7_15 ?_
  refine r_call rfl Try.call15 (by simp only [List.map_cons, List.map_nil, List.map_toArray, List.toList_toArray, upd_get, ev, Nat.reduceEqDiff, ↓reduceIte] <;> rfl) (Same_c ⟨_, _, _, _⟩ ⟨_, _, _, _⟩ _ (by first | assumption | exact SH.rsR H (by repeat first | exact At.here | apply At.there) | exact SH.rsO H (by repeat first | exact At.here | apply At.there) | exact Rs.toH (by first | assumption | exact SH.rsR H (by repeat first | exact At.here | apply At.there) | exact SH.rsO H (by repeat first | exact At.here | apply At.there)) (by omega) | exact Rs.toL (by first | assumption | exact SH.rsR H (by repeat first | exact At.here | apply At.there) | exact SH.rsO H (by repeat first | exact At.here | apply At.there)) (by omega) | exact Rs.toLH (by first | assumption | exact SH.rsR H (by repeat first | exact At.here | apply At.there) | exact SH.rsO H (by repeat first | exact At.here | apply At.there)) (by omega) (by omega) | exact (Rs.nil : Rs Non _ _ _)) (by first | assumption | exact SH.rsR H (by repeat first | exact At.here | apply At.there) | exact SH.rsO H (by repeat first | exact At.here | apply At.there) | exact Rs.toH (by first | assumption | exact SH.rsR H (by repeat first | exact At.here | apply At.there) | exact SH.rsO H (by repeat first | exact At.here | apply At.there)) (by omega) | exact Rs.toL (by first | assumption | exact SH.rsR H (by repeat first | exact At.here | apply At.there) | exact SH.rsO H (by repeat first | exact At.here | apply At.there)) (by omega) | exact Rs.toLH (by first | assumption | exact SH.rsR H (by repeat first | exact At.here | apply At.there) | exact SH.rsO H (by repeat first | exact At.here | apply At.there)) (by omega) (by omega) | exact (Rs.nil : Rs Non _ _ _))) ?_
  rintro _ w7_18 ⟨rfl, X⟩
  refine ⟨_, rfl, ?_⟩
  replace H := SH.same H X
  clear X
  refine r_pickT rfl rfl hg7_15 ?_
  refine r_move rfl ?_
  refine LW.known (t := 40) (c := true) rfl (by rfl) (fun hg7_21 => ?_)
  refine LW.want rfl rfl hg7_21 ?_
  refine r_move rfl ?_
  refine LW.want rfl rfl hg7_21 ?_
  refine r_call rfl Try.call19 (by simp only [List.map_cons, List.map_nil, List.map_toArray, List.toList_toArray, upd_get, ev, Nat.reduceEqDiff, ↓reduceIte] <;> rfl) (Twice_c _ _ (SH.prop H (by repeat first | exact At.here | apply At.there)) (by omega) (by omega)) ?_
  rintro _ w7_22 ⟨FN7_22, rfl, K⟩
  refine ⟨_, rfl, ?_⟩
  replace H := SH.updP H (by repeat first | exact At.here | apply At.there) K
  clear K
  try dsimp only [replC, List.cons_append, List.nil_append, List.append_nil, agg, cellsL, Value.cells, List.toList_toArray, List.set_cons_zero, List.set_cons_succ, spliceL, List.take_succ_cons, List.take_zero, List.drop_succ_cons, List.drop_zero, List.length_cons, List.length_nil, Nat.reduceAdd, Row.cells, Flight.L] at H
  refine LW.want rfl rfl hg7_21 ?_
  refine r_eql rfl rfl rfl ?_
  refine r_pickT rfl rfl hg7_21 ?_
  refine r_assign rfl ?_
  refine LW.nil ?_
  refine thenE_norm ?_
  refine cut (K := K8) [0] (fun σ => ?_)
  simp only [setL, keepE, upd_get, ev, Nat.reduceEqDiff, ↓reduceIte]
  refine h8 _ _ ?_; clear h8; try clear K8
  refine CW.ret (ret1 Try.results18 (by simp only [upd_get, ev, Nat.reduceEqDiff, ↓reduceIte]; rfl) ?_)
  exact ⟨rfl, H.ext⟩

theorem put_ok {ms : List Fl} {lost : Int} {m : Fl} (h1 : m.bytes.length ≤ 2048) (h2 : ms.length < 600) : netPut ms lost m = (ms ++ [m], lost, 0) := by
  rw [netPut, if_neg (by omega), if_neg (by omega)]
theorem put_full {ms : List Fl} {lost : Int} {m : Fl} (h1 : m.bytes.length ≤ 2048) (h2 : 600 ≤ ms.length) : netPut ms lost m = (ms, lost + 1, 5) := by
  rw [netPut, if_neg (by omega), if_pos h2]
theorem twice_in {ms : List Fl} {lost : Int} {i : Int} {m : Fl} (h0 : 0 ≤ i) (h : ms[i.toNat]? = some m) : netTwice ms lost i = netPut ms lost m := by
  rw [netTwice, netAt_in h0 h, if_pos rfl]

set_option maxHeartbeats 2000000 in
theorem NetOwn_c {F : Nat → Prop} {v : Value} {xs : List UInt8} (by_ : Int) (w : World) (hv : Rs F w v xs) (hb0 : 0 ≤ by_) (hb1 : by_ < 256) :
    Calls Try.prog 4 #[v, .int .u8 by_] w fun e w' => e = .returned (.bool true) ∧ Ext0 w w' := by
  have H := (SH.start w).arg hv
  refine calls_of_CW Try.func4 rfl Try.ntmps4 (Nat.le_of_ble_eq_true rfl) ?_
  simp only [argE, argFrom, Nat.reduceAdd]
  refine CW.seq (fun K1 h1 => ?_)
  refine CW.region ?_
  refine r_assign rfl ?_
  refine LW.nil ?_
  refine thenE_norm (h1 _ _ ?_); clear h1; try clear K1
  refine CW.seq (fun K2 h2 => ?_)
  refine CW.seq (fun K3 h3 => ?_)
  refine CW.region ?_
  refine r_move rfl ?_
  first
    | refine r_lenV rfl Try.underlying22 (by simp only [upd_get, ev, Nat.reduceEqDiff, ↓reduceIte] <;> rfl) (by first | assumption | exact SH.rsR H (by repeat first | exact At.here | apply At.there) | exact SH.rsO H (by repeat first | exact At.here | apply At.there) | exact Rs.toH (by first | assumption | exact SH.rsR H (by repeat first | exact At.here | apply At.there) | exact SH.rsO H (by repeat first | exact At.here | apply At.there)) (by omega) | exact Rs.toL (by first | assumption | exact SH.rsR H (by repeat first | exact At.here | apply At.there) | exact SH.rsO H (by repeat first | exact At.here | apply At.there)) (by omega) | exact Rs.toLH (by first | assumption | exact SH.rsR H (by repeat first | exact At.here | apply At.there) | exact SH.rsO H (by repeat first | exact At.here | apply At.there)) (by omega) (by omega) | exact (Rs.nil : Rs Non _ _ _)) ?_
    | refine r_len rfl Try.underlying22 rfl ?_
  refine r_gtr rfl rfl rfl ?_
  refine r_move rfl ?_
  refine' LW.grpOr (n := 4) (ts := [0, 1]) (d := 23) (tj := 19) rfl (fun hg1_4 => ?_) (fun hg1_4 => ?_) (fun σ => ?_)
  rotate_left
  · simp only [List.take_succ_cons, List.take_zero]
    have hg1_4P := hg1_4
    try simp only [decide_eq_true_eq, decide_eq_false_iff_not, Bool.and_eq_true, Bool.or_eq_true, Bool.and_eq_false_iff, Bool.or_eq_false_iff, Bool.not_eq_true', Bool.not_eq_false', beq_iff_eq, bne_iff_ne] at hg1_4P
    refine LW.want rfl rfl hg1_4 ?_
    refine r_move rfl ?_
    refine LW.want rfl rfl hg1_4 ?_
    first
      | refine r_lenV rfl Try.underlying22 (by simp only [upd_get, ev, Nat.reduceEqDiff, ↓reduceIte] <;> rfl) (by first | assumption | exact SH.rsR H (by repeat first | exact At.here | apply At.there) | exact SH.rsO H (by repeat first | exact At.here | apply At.there) | exact Rs.toH (by first | assumption | exact SH.rsR H (by repeat first | exact At.here | apply At.there) | exact SH.rsO H (by repeat first | exact At.here | apply At.there)) (by omega) | exact Rs.toL (by first | assumption | exact SH.rsR H (by repeat first | exact At.here | apply At.there) | exact SH.rsO H (by repeat first | exact At.here | apply At.there)) (by omega) | exact Rs.toLH (by first | assumption | exact SH.rsR H (by repeat first | exact At.here | apply At.there) | exact SH.rsO H (by repeat first | exact At.here | apply At.there)) (by omega) (by omega) | exact (Rs.nil : Rs Non _ _ _)) ?_
      | refine r_len rfl Try.underlying22 rfl ?_
    refine LW.want rfl rfl hg1_4 ?_
    refine r_eql rfl rfl rfl ?_
    refine r_pickF rfl rfl hg1_4 ?_
    refine LW.nil (thenE_norm ⟨rfl, rfl, rfl⟩)
  · simp only [List.take_succ_cons, List.take_zero]
    refine LW.skip rfl (fun _ e => by cases e; decide) rfl hg1_4 ?_
    refine LW.skip rfl (fun _ e => by cases e; decide) rfl hg1_4 ?_
    refine LW.skip rfl (fun _ e => by cases e; decide) rfl hg1_4 ?_
    refine r_pickT rfl rfl hg1_4 ?_
    refine LW.nil (thenE_norm ⟨rfl, rfl, rfl⟩)
  simp only [setL, keepE, upd_get, ev, Nat.reduceEqDiff, ↓reduceIte]; simp only [List.drop_succ_cons, List.drop_zero]
  refine LW.nil ?_
  refine thenE_norm (h3 _ _ ?_); clear h3; try clear K3
  refine CW.cond rfl (fun hc1 => ?_) (fun hc1 => ?_)
  · try simp only [decide_eq_true_eq, decide_eq_false_iff_not, Bool.and_eq_true, Bool.or_eq_true, Bool.and_eq_false_iff, Bool.or_eq_false_iff, Bool.not_eq_true', Bool.not_eq_false', beq_iff_eq, bne_iff_ne, ne_eq, Decidable.not_not] at hc1
    refine CW.seq (fun K4 h4 => ?_)
    refine CW.region ?_
    refine r_call rfl Try.call18 (by simp only [List.map_cons, List.map_nil, List.map_toArray, List.toList_toArray, upd_get, ev, Nat.reduceEqDiff, ↓reduceIte] <;> rfl) (awake26_c _) ?_
    rintro _ w2_0 ⟨rfl, X⟩
    refine ⟨_, rfl, ?_⟩
    replace H := SH.same H X
    clear X
    refine r_assign rfl ?_
    refine LW.nil ?_
    refine thenE_norm (h4 _ _ ?_); clear h4; try clear K4
    refine CW.ret (thenE_ret (ret1 Try.results4 (by simp only [upd_get, ev, Nat.reduceEqDiff, ↓reduceIte]; rfl) ?_))
    exact ⟨rfl, H.ext⟩
  · try simp only [decide_eq_true_eq, decide_eq_false_iff_not, Bool.and_eq_true, Bool.or_eq_true, Bool.and_eq_false_iff, Bool.or_eq_false_iff, Bool.not_eq_true', Bool.not_eq_false', beq_iff_eq, bne_iff_ne, ne_eq, Decidable.not_not] at hc1
    have hl0 : 0 < xs.length := by omega
    have hl1 : xs.length ≤ 300 := by omega
    have hk0 := Int.emod_nonneg by_ (show (xs.length : Int) ≠ 0 from by omega)
    have hk1 := Int.emod_lt_of_pos by_ (show 0 < (xs.length : Int) from by omega)
    obtain ⟨x, hx⟩ := get_of_lt (show (by_ % xs.length).toNat < xs.length by omega)
    obtain ⟨y0, hy0⟩ := get_of_lt hl0
    obtain ⟨x1, hx1⟩ := u8_any (x.toNat + 1)
    obtain ⟨x2, hx2⟩ := u8_any (x.toNat + 2)
    obtain ⟨x3, hx3⟩ := u8_any (y0.toNat + 3)
    refine CW.skip ?_
    refine thenE_norm (h2 _ _ ?_); clear h2; try clear K2
    refine CW.seq (fun K5 h5 => ?_)
    refine CW.region ?_
    refine r_call rfl Try.call12 (by simp only [List.map_cons, List.map_nil, List.map_toArray, List.toList_toArray, upd_get, ev, Nat.reduceEqDiff, ↓reduceIte] <;> rfl) (NetNew_c _) ?_
    rintro _ w3_0 ⟨p, FN, rfl, K⟩
    refine ⟨_, rfl, ?_⟩
    replace H := SH.call H K
    clear K
    try dsimp only [replC, List.cons_append, List.nil_append, List.append_nil, agg, cellsL, Value.cells, List.toList_toArray, List.set_cons_zero, List.set_cons_succ, spliceL, List.take_succ_cons, List.take_zero, List.drop_succ_cons, List.drop_zero, List.length_cons, List.length_nil, Nat.reduceAdd, Row.cells, Flight.L] at H
    refine r_assign rfl ?_
    refine LW.nil ?_
    refine thenE_norm (h5 _ _ ?_); clear h5; try clear K5
    refine CW.seq (fun K6 h6 => ?_)
    refine CW.seq (fun K7 h7 => ?_)
    refine CW.region ?_
    refine r_move rfl ?_
    refine r_eqlP rfl Try.underlying23 rfl rfl ?_
    refine LW.nil ?_
    refine thenE_norm (h7 _ _ ?_); clear h7; try clear K7
    refine CW.condF rfl (by first | rfl | (simp only [decide_eq_true_eq, decide_eq_false_iff_not, Bool.and_eq_true, Bool.or_eq_true, Bool.and_eq_false_iff, Bool.or_eq_false_iff, Bool.not_eq_true', Bool.not_eq_false', beq_iff_eq, bne_iff_ne]; omega) | simp_all) ?_
    refine CW.skip ?_
    refine thenE_norm (h6 _ _ ?_); clear h6; try clear K6
    refine CW.seq (fun K8 h8 => ?_)
    refine CW.region ?_
    refine r_buildSlice rfl Try.underlying22 Try.sizeOf5 Try.zeroValue5 rfl rfl rfl (by simp only [List.map_cons, List.map_nil, List.toList_toArray, List.foldl_cons, List.foldl_nil, List.replicate_succ, List.replicate_zero, List.set_cons_zero, List.set_cons_succ, upd_get, ev, Nat.reduceEqDiff, ↓reduceIte] <;> rfl) ?_
    intro b6_0 w6_0 hb6_0 hs6_0 hE6_0 hB6_0
    replace H := SH.call H (SH.fromB hE6_0 hb6_0 hs6_0 hB6_0)
    clear hb6_0 hs6_0 hE6_0 hB6_0
    try dsimp only [replC, List.cons_append, List.nil_append, List.append_nil, agg, cellsL, Value.cells, List.toList_toArray, List.set_cons_zero, List.set_cons_succ, spliceL, List.take_succ_cons, List.take_zero, List.drop_succ_cons, List.drop_zero, List.length_cons, List.length_nil, Nat.reduceAdd, Row.cells, Flight.L] at H
    replace H := SH.row (b := b6_0) (xs := ([] : List UInt8)) (n := 0) (cap := 0) H (by repeat first | exact At.here | apply At.there) (by rfl) (by intro x hx; first | rfl | (simp at hx; done) | (simp only [List.mem_cons, List.not_mem_nil, or_false] at hx; rcases hx with rfl <;> first | rfl | exact (by first | rfl | exact Rs.oneC (by first | assumption | exact SH.rsR H (by repeat first | exact At.here | apply At.there) | exact SH.rsO H (by repeat first | exact At.here | apply At.there) | exact Rs.toH (by first | assumption | exact SH.rsR H (by repeat first | exact At.here | apply At.there) | exact SH.rsO H (by repeat first | exact At.here | apply At.there)) (by omega) | exact Rs.toL (by first | assumption | exact SH.rsR H (by repeat first | exact At.here | apply At.there) | exact SH.rsO H (by repeat first | exact At.here | apply At.there)) (by omega) | exact Rs.toLH (by first | assumption | exact SH.rsR H (by repeat first | exact At.here | apply At.there) | exact SH.rsO H (by repeat first | exact At.here | apply At.there)) (by omega) (by omega) | exact (Rs.nil : Rs Non _ _ _)) | (simp only [List.all_cons, List.all_nil, Bool.and_true, Bool.and_eq_true, Row.cells, Flight.L]; (repeat' constructor) <;> first | rfl | exact Rs.oneC (by first | assumption | exact SH.rsR H (by repeat first | exact At.here | apply At.there) | exact SH.rsO H (by repeat first | exact At.here | apply At.there) | exact Rs.toH (by first | assumption | exact SH.rsR H (by repeat first | exact At.here | apply At.there) | exact SH.rsO H (by repeat first | exact At.here | apply At.there)) (by omega) | exact Rs.toL (by first | assumption | exact SH.rsR H (by repeat first | exact At.here | apply At.there) | exact SH.rsO H (by repeat first | exact At.here | apply At.there)) (by omega) | exact Rs.toLH (by first | assumption | exact SH.rsR H (by repeat first | exact At.here | apply At.there) | exact SH.rsO H (by repeat first | exact At.here | apply At.there)) (by omega) (by omega) | exact (Rs.nil : Rs Non _ _ _)))))) (by rfl) rfl (by decide)
    try dsimp only [replC, List.cons_append, List.nil_append, List.append_nil, agg, cellsL, Value.cells, List.toList_toArray, List.set_cons_zero, List.set_cons_succ, spliceL, List.take_succ_cons, List.take_zero, List.drop_succ_cons, List.drop_zero, List.length_cons, List.length_nil, Nat.reduceAdd, Row.cells, Flight.L] at H
    refine r_move rfl ?_
    first
      | refine s_append H rfl Try.underlying22 Try.underlying22 Try.type5 rfl (by simp only [upd_get, ev, Nat.reduceEqDiff, ↓reduceIte] <;> rfl) (by simp only [upd_get, ev, Nat.reduceEqDiff, ↓reduceIte] <;> rfl) (by repeat first | exact At.here | apply At.there) (by first | assumption | exact SH.rsR H (by repeat first | exact At.here | apply At.there) | exact SH.rsO H (by repeat first | exact At.here | apply At.there) | exact Rs.toH (by first | assumption | exact SH.rsR H (by repeat first | exact At.here | apply At.there) | exact SH.rsO H (by repeat first | exact At.here | apply At.there)) (by omega) | exact Rs.toL (by first | assumption | exact SH.rsR H (by repeat first | exact At.here | apply At.there) | exact SH.rsO H (by repeat first | exact At.here | apply At.there)) (by omega) | exact Rs.toLH (by first | assumption | exact SH.rsR H (by repeat first | exact At.here | apply At.there) | exact SH.rsO H (by repeat first | exact At.here | apply At.there)) (by omega) (by omega) | exact (Rs.nil : Rs Non _ _ _)) (by rfl) (by rfl) (by first | omega | (simp only [Try.t5, List.length_append, List.length_cons, List.length_nil, List.length_map, maxLen]; omega) | (simp [Try.t5, maxLen]; omega)) (by first | omega | (simp only [Try.t5, List.length_append, List.length_cons, List.length_nil, List.length_map, maxLen]; omega) | (simp [Try.t5, maxLen]; omega)) ?_
      | refine s_appendNil H rfl Try.underlying22 Try.underlying22 Try.type5 rfl rfl (by simp only [upd_get, ev, Nat.reduceEqDiff, ↓reduceIte] <;> rfl) (by first | assumption | exact SH.rsR H (by repeat first | exact At.here | apply At.there) | exact SH.rsO H (by repeat first | exact At.here | apply At.there) | exact Rs.toH (by first | assumption | exact SH.rsR H (by repeat first | exact At.here | apply At.there) | exact SH.rsO H (by repeat first | exact At.here | apply At.there)) (by omega) | exact Rs.toL (by first | assumption | exact SH.rsR H (by repeat first | exact At.here | apply At.there) | exact SH.rsO H (by repeat first | exact At.here | apply At.there)) (by omega) | exact Rs.toLH (by first | assumption | exact SH.rsR H (by repeat first | exact At.here | apply At.there) | exact SH.rsO H (by repeat first | exact At.here | apply At.there)) (by omega) (by omega) | exact (Rs.nil : Rs Non _ _ _)) (by rfl) (by rfl) (by first | omega | (simp only [Try.t5, List.length_append, List.length_cons, List.length_nil, List.length_map, maxLen]; omega) | (simp [Try.t5, maxLen]; omega)) ?_
    clear H
    intro v6_2 w6_2 g6_2 H hN6_2
    try dsimp only [replC, List.cons_append, List.nil_append, List.append_nil, agg, cellsL, Value.cells, List.toList_toArray, List.set_cons_zero, List.set_cons_succ, spliceL, List.take_succ_cons, List.take_zero, List.drop_succ_cons, List.drop_zero, List.length_cons, List.length_nil, Nat.reduceAdd, Row.cells, Flight.L] at H
    refine r_assign rfl ?_
    refine LW.nil ?_
    refine thenE_norm ?_
    refine cut (K := K8) [0, 1, 5, 6] (fun σ => ?_)
    simp only [setL, keepE, upd_get, ev, Nat.reduceEqDiff, ↓reduceIte]
    refine h8 _ _ ?_; clear h8; try clear K8
    refine CW.seq (fun K9 h9 => ?_)
    refine CW.region ?_
    refine r_move rfl ?_
    refine r_move rfl ?_
    refine r_buildQ rfl Try.underlying29 Try.zeroValue29 rfl (pl := [(0, 1), (1, 1), (2, 1), (3, 1)]) (by intro w; simp [go_sem]) (qs := [(3, [_])]) (cs := [.int .i64 0, .int .i64 0, .int .i64 0, _]) ⟨rfl, cells_one (by simp only [upd_get, ev, Nat.reduceEqDiff, ↓reduceIte] <;> rfl) (by first | rfl | exact Rs.oneC (by first | assumption | exact SH.rsR H (by repeat first | exact At.here | apply At.there) | exact SH.rsO H (by repeat first | exact At.here | apply At.there) | exact Rs.toH (by first | assumption | exact SH.rsR H (by repeat first | exact At.here | apply At.there) | exact SH.rsO H (by repeat first | exact At.here | apply At.there)) (by omega) | exact Rs.toL (by first | assumption | exact SH.rsR H (by repeat first | exact At.here | apply At.there) | exact SH.rsO H (by repeat first | exact At.here | apply At.there)) (by omega) | exact Rs.toLH (by first | assumption | exact SH.rsR H (by repeat first | exact At.here | apply At.there) | exact SH.rsO H (by repeat first | exact At.here | apply At.there)) (by omega) (by omega) | exact (Rs.nil : Rs Non _ _ _))), trivial⟩ rfl ?_
    refine r_call rfl Try.call13 (by simp only [List.map_cons, List.map_nil, List.map_toArray, List.toList_toArray, upd_get, ev, Nat.reduceEqDiff, ↓reduceIte] <;> rfl) (Put_c ⟨0, 0, 0, _⟩ _ (SH.prop H (by repeat first | exact At.here | apply At.there)) (by exact SH.rsO H (i := 2) rfl) (by exact SH.apartPO H (i := 1) (j := 2) rfl rfl (by decide)) (by omega) (by omega)) ?_
    rintro _ w7_3 ⟨FN7_3, rfl, K⟩
    refine ⟨_, rfl, ?_⟩
    replace H := SH.updP H (by repeat first | exact At.here | apply At.there) K
    clear K
    try dsimp only [replC, List.cons_append, List.nil_append, List.append_nil, agg, cellsL, Value.cells, List.toList_toArray, List.set_cons_zero, List.set_cons_succ, spliceL, List.take_succ_cons, List.take_zero, List.drop_succ_cons, List.drop_zero, List.length_cons, List.length_nil, Nat.reduceAdd, Row.cells, Flight.L] at H
    rw [put_ok (by show xs.length ≤ 2048; omega) (by decide)] at H ⊢
    dsimp only [List.nil_append] at H ⊢
    refine r_assign rfl ?_
    refine LW.nil ?_
    refine thenE_norm (h9 _ _ ?_); clear h9; try clear K9
    refine CW.seq (fun K10 h10 => ?_)
    refine CW.region ?_
    refine r_move rfl ?_
    refine r_call rfl Try.call19 (by simp only [List.map_cons, List.map_nil, List.map_toArray, List.toList_toArray, upd_get, ev, Nat.reduceEqDiff, ↓reduceIte] <;> rfl) (Twice_c _ _ (SH.prop H (by repeat first | exact At.here | apply At.there)) (by omega) (by omega)) ?_
    rintro _ w8_1 ⟨FN8_1, rfl, K⟩
    refine ⟨_, rfl, ?_⟩
    replace H := SH.updP H (by repeat first | exact At.here | apply At.there) K
    clear K
    try dsimp only [replC, List.cons_append, List.nil_append, List.append_nil, agg, cellsL, Value.cells, List.toList_toArray, List.set_cons_zero, List.set_cons_succ, spliceL, List.take_succ_cons, List.take_zero, List.drop_succ_cons, List.drop_zero, List.length_cons, List.length_nil, Nat.reduceAdd, Row.cells, Flight.L] at H
    rw [twice_in (m := ⟨0, 0, 0, xs⟩) (by decide) rfl, put_ok (by show xs.length ≤ 2048; omega) (by simp)] at H ⊢
    dsimp only [List.nil_append, List.cons_append] at H ⊢
    refine r_assign rfl ?_
    refine LW.nil ?_
    refine thenE_norm ?_
    refine cut (K := K10) [0, 1, 5, 6, 7, 8] (fun σ => ?_)
    simp only [setL, keepE, upd_get, ev, Nat.reduceEqDiff, ↓reduceIte]
    refine h10 _ _ ?_; clear h10; try clear K10
    refine CW.seq (fun K11 h11 => ?_)
    refine CW.region ?_
    refine r_move rfl ?_
    refine r_move rfl ?_
    refine r_convI rfl Try.underlying5 Try.underlying3 rfl (wr_i64 (by omega) (by omega)) ?_
    refine r_move rfl ?_
    first
      | refine r_lenV rfl Try.underlying22 (by simp only [upd_get, ev, Nat.reduceEqDiff, ↓reduceIte] <;> rfl) (by first | assumption | exact SH.rsR H (by repeat first | exact At.here | apply At.there) | exact SH.rsO H (by repeat first | exact At.here | apply At.there) | exact Rs.toH (by first | assumption | exact SH.rsR H (by repeat first | exact At.here | apply At.there) | exact SH.rsO H (by repeat first | exact At.here | apply At.there)) (by omega) | exact Rs.toL (by first | assumption | exact SH.rsR H (by repeat first | exact At.here | apply At.there) | exact SH.rsO H (by repeat first | exact At.here | apply At.there)) (by omega) | exact Rs.toLH (by first | assumption | exact SH.rsR H (by repeat first | exact At.here | apply At.there) | exact SH.rsO H (by repeat first | exact At.here | apply At.there)) (by omega) (by omega) | exact (Rs.nil : Rs Non _ _ _)) ?_
      | refine r_len rfl Try.underlying22 rfl ?_
    refine r_rem rfl rfl rfl (by omega) (by omega) (wr_i64 (by omega) (by omega)) ?_
    refine r_indexAddrV rfl Try.underlying22 (by simp only [upd_get, ev, Nat.reduceEqDiff, ↓reduceIte] <;> rfl) rfl (by first | assumption | exact SH.rsR H (by repeat first | exact At.here | apply At.there) | exact SH.rsO H (by repeat first | exact At.here | apply At.there) | exact Rs.toH (by first | assumption | exact SH.rsR H (by repeat first | exact At.here | apply At.there) | exact SH.rsO H (by repeat first | exact At.here | apply At.there)) (by omega) | exact Rs.toL (by first | assumption | exact SH.rsR H (by repeat first | exact At.here | apply At.there) | exact SH.rsO H (by repeat first | exact At.here | apply At.there)) (by omega) | exact Rs.toLH (by first | assumption | exact SH.rsR H (by repeat first | exact At.here | apply At.there) | exact SH.rsO H (by repeat first | exact At.here | apply At.there)) (by omega) (by omega) | exact (Rs.nil : Rs Non _ _ _)) (by exact Try.sizeOf5) (by omega) (by omega) ?_
    refine r_load rfl Try.isAgg5 rfl (Rs.cell0 (by exact SH.rsO H (i := 2) rfl) hx rfl) ?_
    refine r_addw rfl rfl rfl ?_
    refine r_indexAddrV rfl Try.underlying22 (by simp only [upd_get, ev, Nat.reduceEqDiff, ↓reduceIte] <;> rfl) rfl (by first | assumption | exact SH.rsR H (by repeat first | exact At.here | apply At.there) | exact SH.rsO H (by repeat first | exact At.here | apply At.there) | exact Rs.toH (by first | assumption | exact SH.rsR H (by repeat first | exact At.here | apply At.there) | exact SH.rsO H (by repeat first | exact At.here | apply At.there)) (by omega) | exact Rs.toL (by first | assumption | exact SH.rsR H (by repeat first | exact At.here | apply At.there) | exact SH.rsO H (by repeat first | exact At.here | apply At.there)) (by omega) | exact Rs.toLH (by first | assumption | exact SH.rsR H (by repeat first | exact At.here | apply At.there) | exact SH.rsO H (by repeat first | exact At.here | apply At.there)) (by omega) (by omega) | exact (Rs.nil : Rs Non _ _ _)) (by exact Try.sizeOf5) (by omega) (by omega) ?_
    refine s_storeR (o := 0) (x1 := x1) H Try.sizeOf5 rfl (by simp only [upd_get, ev, Nat.reduceEqDiff, ↓reduceIte] <;> rfl) (by first | rfl | exact Rs.oneC (by first | assumption | exact SH.rsR H (by repeat first | exact At.here | apply At.there) | exact SH.rsO H (by repeat first | exact At.here | apply At.there) | exact Rs.toH (by first | assumption | exact SH.rsR H (by repeat first | exact At.here | apply At.there) | exact SH.rsO H (by repeat first | exact At.here | apply At.there)) (by omega) | exact Rs.toL (by first | assumption | exact SH.rsR H (by repeat first | exact At.here | apply At.there) | exact SH.rsO H (by repeat first | exact At.here | apply At.there)) (by omega) | exact Rs.toLH (by first | assumption | exact SH.rsR H (by repeat first | exact At.here | apply At.there) | exact SH.rsO H (by repeat first | exact At.here | apply At.there)) (by omega) (by omega) | exact (Rs.nil : Rs Non _ _ _)) | (simp only [List.all_cons, List.all_nil, Bool.and_true, Bool.and_eq_true, Row.cells, Flight.L]; (repeat' constructor) <;> first | rfl | exact Rs.oneC (by first | assumption | exact SH.rsR H (by repeat first | exact At.here | apply At.there) | exact SH.rsO H (by repeat first | exact At.here | apply At.there) | exact Rs.toH (by first | assumption | exact SH.rsR H (by repeat first | exact At.here | apply At.there) | exact SH.rsO H (by repeat first | exact At.here | apply At.there)) (by omega) | exact Rs.toL (by first | assumption | exact SH.rsR H (by repeat first | exact At.here | apply At.there) | exact SH.rsO H (by repeat first | exact At.here | apply At.there)) (by omega) | exact Rs.toLH (by first | assumption | exact SH.rsR H (by repeat first | exact At.here | apply At.there) | exact SH.rsO H (by repeat first | exact At.here | apply At.there)) (by omega) (by omega) | exact (Rs.nil : Rs Non _ _ _)))) (by repeat first | exact At.here | apply At.there) hx (by rfl) (by rfl) (by rw [hx1]; rfl) (by first | rfl | exact Rs.oneC (by first | assumption | exact SH.rsR H (by repeat first | exact At.here | apply At.there) | exact SH.rsO H (by repeat first | exact At.here | apply At.there) | exact Rs.toH (by first | assumption | exact SH.rsR H (by repeat first | exact At.here | apply At.there) | exact SH.rsO H (by repeat first | exact At.here | apply At.there)) (by omega) | exact Rs.toL (by first | assumption | exact SH.rsR H (by repeat first | exact At.here | apply At.there) | exact SH.rsO H (by repeat first | exact At.here | apply At.there)) (by omega) | exact Rs.toLH (by first | assumption | exact SH.rsR H (by repeat first | exact At.here | apply At.there) | exact SH.rsO H (by repeat first | exact At.here | apply At.there)) (by omega) (by omega) | exact (Rs.nil : Rs Non _ _ _)) | (simp only [List.all_cons, List.all_nil, Bool.and_true, Bool.and_eq_true, Row.cells, Flight.L]; (repeat' constructor) <;> first | rfl | exact Rs.oneC (by first | assumption | exact SH.rsR H (by repeat first | exact At.here | apply At.there) | exact SH.rsO H (by repeat first | exact At.here | apply At.there) | exact Rs.toH (by first | assumption | exact SH.rsR H (by repeat first | exact At.here | apply At.there) | exact SH.rsO H (by repeat first | exact At.here | apply At.there)) (by omega) | exact Rs.toL (by first | assumption | exact SH.rsR H (by repeat first | exact At.here | apply At.there) | exact SH.rsO H (by repeat first | exact At.here | apply At.there)) (by omega) | exact Rs.toLH (by first | assumption | exact SH.rsR H (by repeat first | exact At.here | apply At.there) | exact SH.rsO H (by repeat first | exact At.here | apply At.there)) (by omega) (by omega) | exact (Rs.nil : Rs Non _ _ _)))) ?_
    clear H
    intro w9_10 H
    try dsimp only [replC, List.cons_append, List.nil_append, List.append_nil, agg, cellsL, Value.cells, List.toList_toArray, List.set_cons_zero, List.set_cons_succ, spliceL, List.take_succ_cons, List.take_zero, List.drop_succ_cons, List.drop_zero, List.length_cons, List.length_nil, Nat.reduceAdd, Row.cells, Flight.L] at H
    refine LW.nil ?_
    refine thenE_norm ?_
    refine cut (K := K11) [0, 1, 5, 7, 8] (fun σ => ?_)
    simp only [setL, keepE, upd_get, ev, Nat.reduceEqDiff, ↓reduceIte]
    refine h11 _ _ ?_; clear h11; try clear K11
    refine CW.seq (fun K12 h12 => ?_)
    refine CW.region ?_
    refine r_move rfl ?_
    refine r_call rfl Try.call16 (by simp only [List.map_cons, List.map_nil, List.map_toArray, List.toList_toArray, upd_get, ev, Nat.reduceEqDiff, ↓reduceIte] <;> rfl) (Look_c _ _ (SH.prop H (by repeat first | exact At.here | apply At.there))) ?_
    rintro _ w10_1 ⟨v10_1, g10_1, rfl, K⟩
    refine ⟨_, rfl, ?_⟩
    replace H := SH.call H K
    clear K
    try dsimp only [replC, List.cons_append, List.nil_append, List.append_nil, agg, cellsL, Value.cells, List.toList_toArray, List.set_cons_zero, List.set_cons_succ, spliceL, List.take_succ_cons, List.take_zero, List.drop_succ_cons, List.drop_zero, List.length_cons, List.length_nil, Nat.reduceAdd, Row.cells, Flight.L] at H
    rw [netAt_in (m := ⟨0, 0, 0, xs⟩) (by decide) rfl] at H ⊢
    dsimp only at H ⊢
    refine r_move rfl ?_
    refine r_extract rfl (by simp only [upd_get, ev, Nat.reduceEqDiff, ↓reduceIte] <;> rfl) (by simp only [List.getElem?_toArray, List.getElem?_cons_zero, List.getElem?_cons_succ] <;> rfl) ?_
    refine r_extract rfl (by simp only [upd_get, ev, Nat.reduceEqDiff, ↓reduceIte] <;> rfl) (by simp only [List.getElem?_toArray, List.getElem?_cons_zero, List.getElem?_cons_succ] <;> rfl) ?_
    refine s_alloc (cs := [.int .i64 0, .int .i64 0, .int .i64 0, .slice none 0 0]) H rfl Try.zeroValue29 rfl ?_
    clear H
    intro b10_5 w10_5 H
    try dsimp only [replC, List.cons_append, List.nil_append, List.append_nil, agg, cellsL, Value.cells, List.toList_toArray, List.set_cons_zero, List.set_cons_succ, spliceL, List.take_succ_cons, List.take_zero, List.drop_succ_cons, List.drop_zero, List.length_cons, List.length_nil, Nat.reduceAdd, Row.cells, Flight.L] at H
    refine s_storeA H Try.sizeOf29 rfl (by simp only [upd_get, ev, Nat.reduceEqDiff, ↓reduceIte] <;> rfl) (by simp only [cellsL, agg, List.toList_toArray, Row.cells, Flight.L] <;> rfl) (by rfl) (by first | rfl | exact Rs.oneC (by first | assumption | exact SH.rsR H (by repeat first | exact At.here | apply At.there) | exact SH.rsO H (by repeat first | exact At.here | apply At.there) | exact Rs.toH (by first | assumption | exact SH.rsR H (by repeat first | exact At.here | apply At.there) | exact SH.rsO H (by repeat first | exact At.here | apply At.there)) (by omega) | exact Rs.toL (by first | assumption | exact SH.rsR H (by repeat first | exact At.here | apply At.there) | exact SH.rsO H (by repeat first | exact At.here | apply At.there)) (by omega) | exact Rs.toLH (by first | assumption | exact SH.rsR H (by repeat first | exact At.here | apply At.there) | exact SH.rsO H (by repeat first | exact At.here | apply At.there)) (by omega) (by omega) | exact (Rs.nil : Rs Non _ _ _)) | (simp only [List.all_cons, List.all_nil, Bool.and_true, Bool.and_eq_true, Row.cells, Flight.L]; (repeat' constructor) <;> first | rfl | exact Rs.oneC (by first | assumption | exact SH.rsR H (by repeat first | exact At.here | apply At.there) | exact SH.rsO H (by repeat first | exact At.here | apply At.there) | exact Rs.toH (by first | assumption | exact SH.rsR H (by repeat first | exact At.here | apply At.there) | exact SH.rsO H (by repeat first | exact At.here | apply At.there)) (by omega) | exact Rs.toL (by first | assumption | exact SH.rsR H (by repeat first | exact At.here | apply At.there) | exact SH.rsO H (by repeat first | exact At.here | apply At.there)) (by omega) | exact Rs.toLH (by first | assumption | exact SH.rsR H (by repeat first | exact At.here | apply At.there) | exact SH.rsO H (by repeat first | exact At.here | apply At.there)) (by omega) (by omega) | exact (Rs.nil : Rs Non _ _ _)))) (by repeat first | exact At.here | apply At.there) (by first | (simp; done) | decide | (show _ ≤ _; decide)) ?_
    clear H
    intro w10_6 H
    try dsimp only [replC, List.cons_append, List.nil_append, List.append_nil, agg, cellsL, Value.cells, List.toList_toArray, List.set_cons_zero, List.set_cons_succ, spliceL, List.take_succ_cons, List.take_zero, List.drop_succ_cons, List.drop_zero, List.length_cons, List.length_nil, Nat.reduceAdd, Row.cells, Flight.L] at H
    refine r_assign rfl ?_
    refine LW.nil ?_
    refine thenE_norm ?_
    refine cut (K := K12) [0, 1, 5, 7, 8, 9] (fun σ => ?_)
    simp only [setL, keepE, upd_get, ev, Nat.reduceEqDiff, ↓reduceIte]
    refine h12 _ _ ?_; clear h12; try clear K12
    refine CW.seq (fun K13 h13 => ?_)
    refine CW.seq (fun K14 h14 => ?_)
    refine CW.region ?_
    refine r_fieldAddrO rfl Try.underlying29 rfl Try.sizeOf22 (by decide) (show _ = 3 from rfl) rfl ?_
    refine r_load rfl Try.isAgg22 rfl (by first | exact SH.cellB H (by repeat first | exact At.here | apply At.there) (by rfl) | exact SH.cellI H (by repeat first | exact At.here | apply At.there) (by rfl) | exact Rs.cell (by first | assumption | exact SH.rsR H (by repeat first | exact At.here | apply At.there) | exact SH.rsO H (by repeat first | exact At.here | apply At.there) | exact Rs.toH (by first | assumption | exact SH.rsR H (by repeat first | exact At.here | apply At.there) | exact SH.rsO H (by repeat first | exact At.here | apply At.there)) (by omega) | exact Rs.toL (by first | assumption | exact SH.rsR H (by repeat first | exact At.here | apply At.there) | exact SH.rsO H (by repeat first | exact At.here | apply At.there)) (by omega) | exact Rs.toLH (by first | assumption | exact SH.rsR H (by repeat first | exact At.here | apply At.there) | exact SH.rsO H (by repeat first | exact At.here | apply At.there)) (by omega) (by omega) | exact (Rs.nil : Rs Non _ _ _)) (by assumption) (by rfl) | exact Rs.cell0 (by first | assumption | exact SH.rsR H (by repeat first | exact At.here | apply At.there) | exact SH.rsO H (by repeat first | exact At.here | apply At.there) | exact Rs.toH (by first | assumption | exact SH.rsR H (by repeat first | exact At.here | apply At.there) | exact SH.rsO H (by repeat first | exact At.here | apply At.there)) (by omega) | exact Rs.toL (by first | assumption | exact SH.rsR H (by repeat first | exact At.here | apply At.there) | exact SH.rsO H (by repeat first | exact At.here | apply At.there)) (by omega) | exact Rs.toLH (by first | assumption | exact SH.rsR H (by repeat first | exact At.here | apply At.there) | exact SH.rsO H (by repeat first | exact At.here | apply At.there)) (by omega) (by omega) | exact (Rs.nil : Rs Non _ _ _)) (by assumption) (by rfl) | assumption) ?_
    first
      | refine r_lenV rfl Try.underlying22 (by simp only [upd_get, ev, Nat.reduceEqDiff, ↓reduceIte] <;> rfl) (by first | assumption | exact SH.rsR H (by repeat first | exact At.here | apply At.there) | exact SH.rsO H (by repeat first | exact At.here | apply At.there) | exact Rs.toH (by first | assumption | exact SH.rsR H (by repeat first | exact At.here | apply At.there) | exact SH.rsO H (by repeat first | exact At.here | apply At.there)) (by omega) | exact Rs.toL (by first | assumption | exact SH.rsR H (by repeat first | exact At.here | apply At.there) | exact SH.rsO H (by repeat first | exact At.here | apply At.there)) (by omega) | exact Rs.toLH (by first | assumption | exact SH.rsR H (by repeat first | exact At.here | apply At.there) | exact SH.rsO H (by repeat first | exact At.here | apply At.there)) (by omega) (by omega) | exact (Rs.nil : Rs Non _ _ _)) ?_
      | refine r_len rfl Try.underlying22 rfl ?_
    refine r_move rfl ?_
    first
      | refine r_lenV rfl Try.underlying22 (by simp only [upd_get, ev, Nat.reduceEqDiff, ↓reduceIte] <;> rfl) (by first | assumption | exact SH.rsR H (by repeat first | exact At.here | apply At.there) | exact SH.rsO H (by repeat first | exact At.here | apply At.there) | exact Rs.toH (by first | assumption | exact SH.rsR H (by repeat first | exact At.here | apply At.there) | exact SH.rsO H (by repeat first | exact At.here | apply At.there)) (by omega) | exact Rs.toL (by first | assumption | exact SH.rsR H (by repeat first | exact At.here | apply At.there) | exact SH.rsO H (by repeat first | exact At.here | apply At.there)) (by omega) | exact Rs.toLH (by first | assumption | exact SH.rsR H (by repeat first | exact At.here | apply At.there) | exact SH.rsO H (by repeat first | exact At.here | apply At.there)) (by omega) (by omega) | exact (Rs.nil : Rs Non _ _ _)) ?_
      | refine r_len rfl Try.underlying22 rfl ?_
    refine r_neq rfl rfl rfl ?_
    refine LW.nil ?_
    refine thenE_norm (h14 _ _ ?_); clear h14; try clear K14
    refine CW.condF rfl (by simp) ?_
    refine CW.skip ?_
    refine thenE_norm (h13 _ _ ?_); clear h13; try clear K13
    refine CW.seq (fun K15 h15 => ?_)
    refine CW.drawH [11] H (List.Sublist.refl _) (by kernel_rfl) rfl ?_
    clear H
    intro w13d H
    refine DL.take (i := 0) [0, 1, 7, 8, 9, 10, 11] rfl (by kernel_rfl) (by kernel_rfl) (by kernel_rfl) (by kernel_rfl) rfl rfl (fun u H => x_fieldAddrO Try.underlying29 rfl Try.sizeOf22 (by decide) (show _ = 3 from rfl) rfl) H ?_
    refine DL.take (i := 1) [1, 7, 8, 9, 10, 11] rfl (by kernel_rfl) (by kernel_rfl) (by kernel_rfl) (by kernel_rfl) rfl rfl (fun u H => x_load Try.isAgg22 rfl (by first | exact SH.cellB H (by repeat first | exact At.here | apply At.there) (by rfl) | exact SH.cellI H (by repeat first | exact At.here | apply At.there) (by rfl) | exact Rs.cell (by first | assumption | exact SH.rsR H (by repeat first | exact At.here | apply At.there) | exact SH.rsO H (by repeat first | exact At.here | apply At.there) | exact Rs.toH (by first | assumption | exact SH.rsR H (by repeat first | exact At.here | apply At.there) | exact SH.rsO H (by repeat first | exact At.here | apply At.there)) (by omega) | exact Rs.toL (by first | assumption | exact SH.rsR H (by repeat first | exact At.here | apply At.there) | exact SH.rsO H (by repeat first | exact At.here | apply At.there)) (by omega) | exact Rs.toLH (by first | assumption | exact SH.rsR H (by repeat first | exact At.here | apply At.there) | exact SH.rsO H (by repeat first | exact At.here | apply At.there)) (by omega) (by omega) | exact (Rs.nil : Rs Non _ _ _)) (by assumption) (by rfl) | exact Rs.cell0 (by first | assumption | exact SH.rsR H (by repeat first | exact At.here | apply At.there) | exact SH.rsO H (by repeat first | exact At.here | apply At.there) | exact Rs.toH (by first | assumption | exact SH.rsR H (by repeat first | exact At.here | apply At.there) | exact SH.rsO H (by repeat first | exact At.here | apply At.there)) (by omega) | exact Rs.toL (by first | assumption | exact SH.rsR H (by repeat first | exact At.here | apply At.there) | exact SH.rsO H (by repeat first | exact At.here | apply At.there)) (by omega) | exact Rs.toLH (by first | assumption | exact SH.rsR H (by repeat first | exact At.here | apply At.there) | exact SH.rsO H (by repeat first | exact At.here | apply At.there)) (by omega) (by omega) | exact (Rs.nil : Rs Non _ _ _)) (by assumption) (by rfl) | assumption)) H ?_
    refine DL.take (i := 2) [2, 3, 6, 7, 8, 9, 10, 11] rfl (by kernel_rfl) (by kernel_rfl) (by kernel_rfl) (by kernel_rfl) rfl rfl (fun u H => x_move ) H ?_
    refine DL.take (i := 3) [3, 6, 7, 8, 9, 10, 11] rfl (by kernel_rfl) (by kernel_rfl) (by kernel_rfl) (by kernel_rfl) rfl rfl (fun u H => x_convI Try.underlying5 Try.underlying3 rfl (wr_i64 (by omega) (by omega))) H ?_
    refine DL.take (i := 4) [4, 5, 6, 7, 8, 9, 10, 11] rfl (by kernel_rfl) (by kernel_rfl) (by kernel_rfl) (by kernel_rfl) rfl rfl (fun u H => x_move ) H ?_
    refine DL.take (i := 5) [5, 6, 7, 8, 9, 10, 11] rfl (by kernel_rfl) (by kernel_rfl) (by kernel_rfl) (by kernel_rfl) rfl rfl (fun u H => x_lenV Try.underlying22 (by simp only [upd_get, ev, Nat.reduceEqDiff, ↓reduceIte] <;> rfl) (by first | assumption | exact SH.rsR H (by repeat first | exact At.here | apply At.there) | exact SH.rsO H (by repeat first | exact At.here | apply At.there) | exact Rs.toH (by first | assumption | exact SH.rsR H (by repeat first | exact At.here | apply At.there) | exact SH.rsO H (by repeat first | exact At.here | apply At.there)) (by omega) | exact Rs.toL (by first | assumption | exact SH.rsR H (by repeat first | exact At.here | apply At.there) | exact SH.rsO H (by repeat first | exact At.here | apply At.there)) (by omega) | exact Rs.toLH (by first | assumption | exact SH.rsR H (by repeat first | exact At.here | apply At.there) | exact SH.rsO H (by repeat first | exact At.here | apply At.there)) (by omega) (by omega) | exact (Rs.nil : Rs Non _ _ _))) H ?_
    refine DL.take (i := 6) [6, 7, 8, 9, 10, 11] rfl (by kernel_rfl) (by kernel_rfl) (by kernel_rfl) (by kernel_rfl) rfl rfl (fun u H => x_rem rfl rfl (by omega) (by omega) (wr_i64 (by omega) (by omega))) H ?_
    refine DL.take (i := 7) [7, 8, 9, 10, 11] rfl (by kernel_rfl) (by kernel_rfl) (by kernel_rfl) (by kernel_rfl) rfl rfl (fun u H => x_indexAddrV Try.underlying22 (by simp only [upd_get, ev, Nat.reduceEqDiff, ↓reduceIte] <;> rfl) rfl (by first | assumption | exact SH.rsR H (by repeat first | exact At.here | apply At.there) | exact SH.rsO H (by repeat first | exact At.here | apply At.there) | exact Rs.toH (by first | assumption | exact SH.rsR H (by repeat first | exact At.here | apply At.there) | exact SH.rsO H (by repeat first | exact At.here | apply At.there)) (by omega) | exact Rs.toL (by first | assumption | exact SH.rsR H (by repeat first | exact At.here | apply At.there) | exact SH.rsO H (by repeat first | exact At.here | apply At.there)) (by omega) | exact Rs.toLH (by first | assumption | exact SH.rsR H (by repeat first | exact At.here | apply At.there) | exact SH.rsO H (by repeat first | exact At.here | apply At.there)) (by omega) (by omega) | exact (Rs.nil : Rs Non _ _ _)) (by exact Try.sizeOf5) (by omega) (by omega)) H ?_
    refine DL.take (i := 8) [8, 9, 10, 11] rfl (by kernel_rfl) (by kernel_rfl) (by kernel_rfl) (by kernel_rfl) rfl rfl (fun u H => x_load Try.isAgg5 rfl (Rs.cell0 (by exact SH.rsO H (i := 3) rfl) hx rfl)) H ?_
    refine DL.take (i := 9) [9, 10, 11] rfl (by kernel_rfl) (by kernel_rfl) (by kernel_rfl) (by kernel_rfl) rfl rfl (fun u H => x_addw rfl rfl) H ?_
    refine DL.take (i := 10) [10, 11] rfl (by kernel_rfl) (by kernel_rfl) (by kernel_rfl) (by kernel_rfl) rfl rfl (fun u H => x_indexAddrV Try.underlying22 (by simp only [upd_get, ev, Nat.reduceEqDiff, ↓reduceIte] <;> rfl) rfl (by first | assumption | exact SH.rsR H (by repeat first | exact At.here | apply At.there) | exact SH.rsO H (by repeat first | exact At.here | apply At.there) | exact Rs.toH (by first | assumption | exact SH.rsR H (by repeat first | exact At.here | apply At.there) | exact SH.rsO H (by repeat first | exact At.here | apply At.there)) (by omega) | exact Rs.toL (by first | assumption | exact SH.rsR H (by repeat first | exact At.here | apply At.there) | exact SH.rsO H (by repeat first | exact At.here | apply At.there)) (by omega) | exact Rs.toLH (by first | assumption | exact SH.rsR H (by repeat first | exact At.here | apply At.there) | exact SH.rsO H (by repeat first | exact At.here | apply At.there)) (by omega) (by omega) | exact (Rs.nil : Rs Non _ _ _)) (by exact Try.sizeOf5) (by omega) (by omega)) H ?_
    refine DL.one (i := 11) (by kernel_rfl) rfl rfl ?_
    refine s_storeR (o := 0) (x1 := x2) H Try.sizeOf5 rfl (by simp only [upd_get, ev, Nat.reduceEqDiff, ↓reduceIte] <;> rfl) (by first | rfl | exact Rs.oneC (by first | assumption | exact SH.rsR H (by repeat first | exact At.here | apply At.there) | exact SH.rsO H (by repeat first | exact At.here | apply At.there) | exact Rs.toH (by first | assumption | exact SH.rsR H (by repeat first | exact At.here | apply At.there) | exact SH.rsO H (by repeat first | exact At.here | apply At.there)) (by omega) | exact Rs.toL (by first | assumption | exact SH.rsR H (by repeat first | exact At.here | apply At.there) | exact SH.rsO H (by repeat first | exact At.here | apply At.there)) (by omega) | exact Rs.toLH (by first | assumption | exact SH.rsR H (by repeat first | exact At.here | apply At.there) | exact SH.rsO H (by repeat first | exact At.here | apply At.there)) (by omega) (by omega) | exact (Rs.nil : Rs Non _ _ _)) | (simp only [List.all_cons, List.all_nil, Bool.and_true, Bool.and_eq_true, Row.cells, Flight.L]; (repeat' constructor) <;> first | rfl | exact Rs.oneC (by first | assumption | exact SH.rsR H (by repeat first | exact At.here | apply At.there) | exact SH.rsO H (by repeat first | exact At.here | apply At.there) | exact Rs.toH (by first | assumption | exact SH.rsR H (by repeat first | exact At.here | apply At.there) | exact SH.rsO H (by repeat first | exact At.here | apply At.there)) (by omega) | exact Rs.toL (by first | assumption | exact SH.rsR H (by repeat first | exact At.here | apply At.there) | exact SH.rsO H (by repeat first | exact At.here | apply At.there)) (by omega) | exact Rs.toLH (by first | assumption | exact SH.rsR H (by repeat first | exact At.here | apply At.there) | exact SH.rsO H (by repeat first | exact At.here | apply At.there)) (by omega) (by omega) | exact (Rs.nil : Rs Non _ _ _)))) (show At _ 3 _ from rfl) hx (by rfl) (by rfl) (by rw [hx2]; rfl) (by first | rfl | exact Rs.oneC (by first | assumption | exact SH.rsR H (by repeat first | exact At.here | apply At.there) | exact SH.rsO H (by repeat first | exact At.here | apply At.there) | exact Rs.toH (by first | assumption | exact SH.rsR H (by repeat first | exact At.here | apply At.there) | exact SH.rsO H (by repeat first | exact At.here | apply At.there)) (by omega) | exact Rs.toL (by first | assumption | exact SH.rsR H (by repeat first | exact At.here | apply At.there) | exact SH.rsO H (by repeat first | exact At.here | apply At.there)) (by omega) | exact Rs.toLH (by first | assumption | exact SH.rsR H (by repeat first | exact At.here | apply At.there) | exact SH.rsO H (by repeat first | exact At.here | apply At.there)) (by omega) (by omega) | exact (Rs.nil : Rs Non _ _ _)) | (simp only [List.all_cons, List.all_nil, Bool.and_true, Bool.and_eq_true, Row.cells, Flight.L]; (repeat' constructor) <;> first | rfl | exact Rs.oneC (by first | assumption | exact SH.rsR H (by repeat first | exact At.here | apply At.there) | exact SH.rsO H (by repeat first | exact At.here | apply At.there) | exact Rs.toH (by first | assumption | exact SH.rsR H (by repeat first | exact At.here | apply At.there) | exact SH.rsO H (by repeat first | exact At.here | apply At.there)) (by omega) | exact Rs.toL (by first | assumption | exact SH.rsR H (by repeat first | exact At.here | apply At.there) | exact SH.rsO H (by repeat first | exact At.here | apply At.there)) (by omega) | exact Rs.toLH (by first | assumption | exact SH.rsR H (by repeat first | exact At.here | apply At.there) | exact SH.rsO H (by repeat first | exact At.here | apply At.there)) (by omega) (by omega) | exact (Rs.nil : Rs Non _ _ _)))) ?_
    clear H
    intro w13_11 H
    try dsimp only [replC, List.cons_append, List.nil_append, List.append_nil, agg, cellsL, Value.cells, List.toList_toArray, List.set_cons_zero, List.set_cons_succ, spliceL, List.take_succ_cons, List.take_zero, List.drop_succ_cons, List.drop_zero, List.length_cons, List.length_nil, Nat.reduceAdd, Row.cells, Flight.L] at H
    refine LW.nil (thenE_norm ⟨fun h => Bool.noConfusion (show true = false from h), ?_⟩)
    refine DL.done (by kernel_rfl) ?_
    refine thenE_norm ?_
    refine cut (K := K15) [0, 5, 7, 8] (fun σ => ?_)
    simp only [setL, keepE, upd_get, ev, Nat.reduceEqDiff, ↓reduceIte]
    refine h15 _ _ ?_; clear h15; try clear K15
    refine CW.seq (fun K16 h16 => ?_)
    refine CW.region ?_
    refine r_move rfl ?_
    refine r_call rfl Try.call14 (by simp only [List.map_cons, List.map_nil, List.map_toArray, List.toList_toArray, upd_get, ev, Nat.reduceEqDiff, ↓reduceIte] <;> rfl) (Take_c _ _ (SH.prop H (by repeat first | exact At.here | apply At.there))) ?_
    rintro _ w14_1 ⟨v14_1, g14_1, FN14_1, rfl, K⟩
    refine ⟨_, rfl, ?_⟩
    replace H := SH.updP H (by repeat first | exact At.here | apply At.there) K
    clear K
    try dsimp only [replC, List.cons_append, List.nil_append, List.append_nil, agg, cellsL, Value.cells, List.toList_toArray, List.set_cons_zero, List.set_cons_succ, spliceL, List.take_succ_cons, List.take_zero, List.drop_succ_cons, List.drop_zero, List.length_cons, List.length_nil, Nat.reduceAdd, Row.cells, Flight.L] at H
    rw [netAt_in (m := ⟨0, 0, 0, xs⟩) (by decide) rfl, show netCut [⟨0, 0, 0, xs⟩, ⟨0, 0, 0, xs⟩] 0 = [⟨0, 0, 0, xs⟩] from rfl] at H
    rw [netAt_in (m := ⟨0, 0, 0, xs⟩) (by decide) rfl]
    dsimp only at H ⊢
    refine r_move rfl ?_
    refine r_extract rfl (by simp only [upd_get, ev, Nat.reduceEqDiff, ↓reduceIte] <;> rfl) (by simp only [List.getElem?_toArray, List.getElem?_cons_zero, List.getElem?_cons_succ] <;> rfl) ?_
    refine r_extract rfl (by simp only [upd_get, ev, Nat.reduceEqDiff, ↓reduceIte] <;> rfl) (by simp only [List.getElem?_toArray, List.getElem?_cons_zero, List.getElem?_cons_succ] <;> rfl) ?_
    refine s_alloc (cs := [.int .i64 0, .int .i64 0, .int .i64 0, .slice none 0 0]) H rfl Try.zeroValue29 rfl ?_
    clear H
    intro b14_5 w14_5 H
    try dsimp only [replC, List.cons_append, List.nil_append, List.append_nil, agg, cellsL, Value.cells, List.toList_toArray, List.set_cons_zero, List.set_cons_succ, spliceL, List.take_succ_cons, List.take_zero, List.drop_succ_cons, List.drop_zero, List.length_cons, List.length_nil, Nat.reduceAdd, Row.cells, Flight.L] at H
    refine s_storeA H Try.sizeOf29 rfl (by simp only [upd_get, ev, Nat.reduceEqDiff, ↓reduceIte] <;> rfl) (by simp only [cellsL, agg, List.toList_toArray, Row.cells, Flight.L] <;> rfl) (by rfl) (by first | rfl | exact Rs.oneC (by first | assumption | exact SH.rsR H (by repeat first | exact At.here | apply At.there) | exact SH.rsO H (by repeat first | exact At.here | apply At.there) | exact Rs.toH (by first | assumption | exact SH.rsR H (by repeat first | exact At.here | apply At.there) | exact SH.rsO H (by repeat first | exact At.here | apply At.there)) (by omega) | exact Rs.toL (by first | assumption | exact SH.rsR H (by repeat first | exact At.here | apply At.there) | exact SH.rsO H (by repeat first | exact At.here | apply At.there)) (by omega) | exact Rs.toLH (by first | assumption | exact SH.rsR H (by repeat first | exact At.here | apply At.there) | exact SH.rsO H (by repeat first | exact At.here | apply At.there)) (by omega) (by omega) | exact (Rs.nil : Rs Non _ _ _)) | (simp only [List.all_cons, List.all_nil, Bool.and_true, Bool.and_eq_true, Row.cells, Flight.L]; (repeat' constructor) <;> first | rfl | exact Rs.oneC (by first | assumption | exact SH.rsR H (by repeat first | exact At.here | apply At.there) | exact SH.rsO H (by repeat first | exact At.here | apply At.there) | exact Rs.toH (by first | assumption | exact SH.rsR H (by repeat first | exact At.here | apply At.there) | exact SH.rsO H (by repeat first | exact At.here | apply At.there)) (by omega) | exact Rs.toL (by first | assumption | exact SH.rsR H (by repeat first | exact At.here | apply At.there) | exact SH.rsO H (by repeat first | exact At.here | apply At.there)) (by omega) | exact Rs.toLH (by first | assumption | exact SH.rsR H (by repeat first | exact At.here | apply At.there) | exact SH.rsO H (by repeat first | exact At.here | apply At.there)) (by omega) (by omega) | exact (Rs.nil : Rs Non _ _ _)))) (by repeat first | exact At.here | apply At.there) (by first | (simp; done) | decide | (show _ ≤ _; decide)) ?_
    clear H
    intro w14_6 H
    try dsimp only [replC, List.cons_append, List.nil_append, List.append_nil, agg, cellsL, Value.cells, List.toList_toArray, List.set_cons_zero, List.set_cons_succ, spliceL, List.take_succ_cons, List.take_zero, List.drop_succ_cons, List.drop_zero, List.length_cons, List.length_nil, Nat.reduceAdd, Row.cells, Flight.L] at H
    refine r_assign rfl ?_
    refine LW.nil ?_
    refine thenE_norm ?_
    refine cut (K := K16) [0, 5, 7, 8, 11, 12] (fun σ => ?_)
    simp only [setL, keepE, upd_get, ev, Nat.reduceEqDiff, ↓reduceIte]
    refine h16 _ _ ?_; clear h16; try clear K16
    refine CW.seq (fun K17 h17 => ?_)
    refine CW.seq (fun K18 h18 => ?_)
    refine CW.region ?_
    refine r_fieldAddrO rfl Try.underlying29 rfl Try.sizeOf22 (by decide) (show _ = 3 from rfl) rfl ?_
    refine r_load rfl Try.isAgg22 rfl (by first | exact SH.cellB H (by repeat first | exact At.here | apply At.there) (by rfl) | exact SH.cellI H (by repeat first | exact At.here | apply At.there) (by rfl) | exact Rs.cell (by first | assumption | exact SH.rsR H (by repeat first | exact At.here | apply At.there) | exact SH.rsO H (by repeat first | exact At.here | apply At.there) | exact Rs.toH (by first | assumption | exact SH.rsR H (by repeat first | exact At.here | apply At.there) | exact SH.rsO H (by repeat first | exact At.here | apply At.there)) (by omega) | exact Rs.toL (by first | assumption | exact SH.rsR H (by repeat first | exact At.here | apply At.there) | exact SH.rsO H (by repeat first | exact At.here | apply At.there)) (by omega) | exact Rs.toLH (by first | assumption | exact SH.rsR H (by repeat first | exact At.here | apply At.there) | exact SH.rsO H (by repeat first | exact At.here | apply At.there)) (by omega) (by omega) | exact (Rs.nil : Rs Non _ _ _)) (by assumption) (by rfl) | exact Rs.cell0 (by first | assumption | exact SH.rsR H (by repeat first | exact At.here | apply At.there) | exact SH.rsO H (by repeat first | exact At.here | apply At.there) | exact Rs.toH (by first | assumption | exact SH.rsR H (by repeat first | exact At.here | apply At.there) | exact SH.rsO H (by repeat first | exact At.here | apply At.there)) (by omega) | exact Rs.toL (by first | assumption | exact SH.rsR H (by repeat first | exact At.here | apply At.there) | exact SH.rsO H (by repeat first | exact At.here | apply At.there)) (by omega) | exact Rs.toLH (by first | assumption | exact SH.rsR H (by repeat first | exact At.here | apply At.there) | exact SH.rsO H (by repeat first | exact At.here | apply At.there)) (by omega) (by omega) | exact (Rs.nil : Rs Non _ _ _)) (by assumption) (by rfl) | assumption) ?_
    first
      | refine r_lenV rfl Try.underlying22 (by simp only [upd_get, ev, Nat.reduceEqDiff, ↓reduceIte] <;> rfl) (by first | assumption | exact SH.rsR H (by repeat first | exact At.here | apply At.there) | exact SH.rsO H (by repeat first | exact At.here | apply At.there) | exact Rs.toH (by first | assumption | exact SH.rsR H (by repeat first | exact At.here | apply At.there) | exact SH.rsO H (by repeat first | exact At.here | apply At.there)) (by omega) | exact Rs.toL (by first | assumption | exact SH.rsR H (by repeat first | exact At.here | apply At.there) | exact SH.rsO H (by repeat first | exact At.here | apply At.there)) (by omega) | exact Rs.toLH (by first | assumption | exact SH.rsR H (by repeat first | exact At.here | apply At.there) | exact SH.rsO H (by repeat first | exact At.here | apply At.there)) (by omega) (by omega) | exact (Rs.nil : Rs Non _ _ _)) ?_
      | refine r_len rfl Try.underlying22 rfl ?_
    refine r_move rfl ?_
    first
      | refine r_lenV rfl Try.underlying22 (by simp only [upd_get, ev, Nat.reduceEqDiff, ↓reduceIte] <;> rfl) (by first | assumption | exact SH.rsR H (by repeat first | exact At.here | apply At.there) | exact SH.rsO H (by repeat first | exact At.here | apply At.there) | exact Rs.toH (by first | assumption | exact SH.rsR H (by repeat first | exact At.here | apply At.there) | exact SH.rsO H (by repeat first | exact At.here | apply At.there)) (by omega) | exact Rs.toL (by first | assumption | exact SH.rsR H (by repeat first | exact At.here | apply At.there) | exact SH.rsO H (by repeat first | exact At.here | apply At.there)) (by omega) | exact Rs.toLH (by first | assumption | exact SH.rsR H (by repeat first | exact At.here | apply At.there) | exact SH.rsO H (by repeat first | exact At.here | apply At.there)) (by omega) (by omega) | exact (Rs.nil : Rs Non _ _ _)) ?_
      | refine r_len rfl Try.underlying22 rfl ?_
    refine r_neq rfl rfl rfl ?_
    refine LW.nil ?_
    refine thenE_norm (h18 _ _ ?_); clear h18; try clear K18
    refine CW.condF rfl (by simp) ?_
    refine CW.skip ?_
    refine thenE_norm (h17 _ _ ?_); clear h17; try clear K17
    refine CW.seq (fun K19 h19 => ?_)
    refine CW.region ?_
    refine r_fieldAddrO rfl Try.underlying29 rfl Try.sizeOf22 (by decide) (show _ = 3 from rfl) rfl ?_
    refine r_load rfl Try.isAgg22 rfl (by first | exact SH.cellB H (by repeat first | exact At.here | apply At.there) (by rfl) | exact SH.cellI H (by repeat first | exact At.here | apply At.there) (by rfl) | exact Rs.cell (by first | assumption | exact SH.rsR H (by repeat first | exact At.here | apply At.there) | exact SH.rsO H (by repeat first | exact At.here | apply At.there) | exact Rs.toH (by first | assumption | exact SH.rsR H (by repeat first | exact At.here | apply At.there) | exact SH.rsO H (by repeat first | exact At.here | apply At.there)) (by omega) | exact Rs.toL (by first | assumption | exact SH.rsR H (by repeat first | exact At.here | apply At.there) | exact SH.rsO H (by repeat first | exact At.here | apply At.there)) (by omega) | exact Rs.toLH (by first | assumption | exact SH.rsR H (by repeat first | exact At.here | apply At.there) | exact SH.rsO H (by repeat first | exact At.here | apply At.there)) (by omega) (by omega) | exact (Rs.nil : Rs Non _ _ _)) (by assumption) (by rfl) | exact Rs.cell0 (by first | assumption | exact SH.rsR H (by repeat first | exact At.here | apply At.there) | exact SH.rsO H (by repeat first | exact At.here | apply At.there) | exact Rs.toH (by first | assumption | exact SH.rsR H (by repeat first | exact At.here | apply At.there) | exact SH.rsO H (by repeat first | exact At.here | apply At.there)) (by omega) | exact Rs.toL (by first | assumption | exact SH.rsR H (by repeat first | exact At.here | apply At.there) | exact SH.rsO H (by repeat first | exact At.here | apply At.there)) (by omega) | exact Rs.toLH (by first | assumption | exact SH.rsR H (by repeat first | exact At.here | apply At.there) | exact SH.rsO H (by repeat first | exact At.here | apply At.there)) (by omega) (by omega) | exact (Rs.nil : Rs Non _ _ _)) (by assumption) (by rfl) | assumption) ?_
    refine r_b2sV rfl Try.underlying22 Try.underlying5 Try.underlying9 (by simp only [upd_get, ev, Nat.reduceEqDiff, ↓reduceIte] <;> rfl) (by first | assumption | exact SH.rsR H (by repeat first | exact At.here | apply At.there) | exact SH.rsO H (by repeat first | exact At.here | apply At.there) | exact Rs.toH (by first | assumption | exact SH.rsR H (by repeat first | exact At.here | apply At.there) | exact SH.rsO H (by repeat first | exact At.here | apply At.there)) (by omega) | exact Rs.toL (by first | assumption | exact SH.rsR H (by repeat first | exact At.here | apply At.there) | exact SH.rsO H (by repeat first | exact At.here | apply At.there)) (by omega) | exact Rs.toLH (by first | assumption | exact SH.rsR H (by repeat first | exact At.here | apply At.there) | exact SH.rsO H (by repeat first | exact At.here | apply At.there)) (by omega) (by omega) | exact (Rs.nil : Rs Non _ _ _)) (fun _ => rfl) ?_
    refine r_assign rfl ?_
    refine LW.nil ?_
    refine thenE_norm ?_
    refine cut (K := K19) [0, 5, 7, 8, 11, 12, 13] (fun σ => ?_)
    simp only [setL, keepE, upd_get, ev, Nat.reduceEqDiff, ↓reduceIte]
    refine h19 _ _ ?_; clear h19; try clear K19
    refine CW.seq (fun K20 h20 => ?_)
    refine CW.region ?_
    refine r_fieldAddrO rfl Try.underlying29 rfl Try.sizeOf22 (by decide) (show _ = 3 from rfl) rfl ?_
    refine r_load rfl Try.isAgg22 rfl (by first | exact SH.cellB H (by repeat first | exact At.here | apply At.there) (by rfl) | exact SH.cellI H (by repeat first | exact At.here | apply At.there) (by rfl) | exact Rs.cell (by first | assumption | exact SH.rsR H (by repeat first | exact At.here | apply At.there) | exact SH.rsO H (by repeat first | exact At.here | apply At.there) | exact Rs.toH (by first | assumption | exact SH.rsR H (by repeat first | exact At.here | apply At.there) | exact SH.rsO H (by repeat first | exact At.here | apply At.there)) (by omega) | exact Rs.toL (by first | assumption | exact SH.rsR H (by repeat first | exact At.here | apply At.there) | exact SH.rsO H (by repeat first | exact At.here | apply At.there)) (by omega) | exact Rs.toLH (by first | assumption | exact SH.rsR H (by repeat first | exact At.here | apply At.there) | exact SH.rsO H (by repeat first | exact At.here | apply At.there)) (by omega) (by omega) | exact (Rs.nil : Rs Non _ _ _)) (by assumption) (by rfl) | exact Rs.cell0 (by first | assumption | exact SH.rsR H (by repeat first | exact At.here | apply At.there) | exact SH.rsO H (by repeat first | exact At.here | apply At.there) | exact Rs.toH (by first | assumption | exact SH.rsR H (by repeat first | exact At.here | apply At.there) | exact SH.rsO H (by repeat first | exact At.here | apply At.there)) (by omega) | exact Rs.toL (by first | assumption | exact SH.rsR H (by repeat first | exact At.here | apply At.there) | exact SH.rsO H (by repeat first | exact At.here | apply At.there)) (by omega) | exact Rs.toLH (by first | assumption | exact SH.rsR H (by repeat first | exact At.here | apply At.there) | exact SH.rsO H (by repeat first | exact At.here | apply At.there)) (by omega) (by omega) | exact (Rs.nil : Rs Non _ _ _)) (by assumption) (by rfl) | assumption) ?_
    refine r_indexAddrV rfl Try.underlying22 (by simp only [upd_get, ev, Nat.reduceEqDiff, ↓reduceIte] <;> rfl) rfl (by first | assumption | exact SH.rsR H (by repeat first | exact At.here | apply At.there) | exact SH.rsO H (by repeat first | exact At.here | apply At.there) | exact Rs.toH (by first | assumption | exact SH.rsR H (by repeat first | exact At.here | apply At.there) | exact SH.rsO H (by repeat first | exact At.here | apply At.there)) (by omega) | exact Rs.toL (by first | assumption | exact SH.rsR H (by repeat first | exact At.here | apply At.there) | exact SH.rsO H (by repeat first | exact At.here | apply At.there)) (by omega) | exact Rs.toLH (by first | assumption | exact SH.rsR H (by repeat first | exact At.here | apply At.there) | exact SH.rsO H (by repeat first | exact At.here | apply At.there)) (by omega) (by omega) | exact (Rs.nil : Rs Non _ _ _)) (by exact Try.sizeOf5) (by omega) (by omega) ?_
    refine r_load rfl Try.isAgg5 rfl (Rs.cell0 (i := 0) (by exact SH.rsO H (i := 2) rfl) hy0 rfl) ?_
    refine r_addw rfl rfl rfl ?_
    refine r_indexAddrV rfl Try.underlying22 (by simp only [upd_get, ev, Nat.reduceEqDiff, ↓reduceIte] <;> rfl) rfl (by first | assumption | exact SH.rsR H (by repeat first | exact At.here | apply At.there) | exact SH.rsO H (by repeat first | exact At.here | apply At.there) | exact Rs.toH (by first | assumption | exact SH.rsR H (by repeat first | exact At.here | apply At.there) | exact SH.rsO H (by repeat first | exact At.here | apply At.there)) (by omega) | exact Rs.toL (by first | assumption | exact SH.rsR H (by repeat first | exact At.here | apply At.there) | exact SH.rsO H (by repeat first | exact At.here | apply At.there)) (by omega) | exact Rs.toLH (by first | assumption | exact SH.rsR H (by repeat first | exact At.here | apply At.there) | exact SH.rsO H (by repeat first | exact At.here | apply At.there)) (by omega) (by omega) | exact (Rs.nil : Rs Non _ _ _)) (by exact Try.sizeOf5) (by omega) (by omega) ?_
    refine s_storeR (o := 0) (x1 := x3) H Try.sizeOf5 rfl (by simp only [upd_get, ev, Nat.reduceEqDiff, ↓reduceIte] <;> rfl) (by first | rfl | exact Rs.oneC (by first | assumption | exact SH.rsR H (by repeat first | exact At.here | apply At.there) | exact SH.rsO H (by repeat first | exact At.here | apply At.there) | exact Rs.toH (by first | assumption | exact SH.rsR H (by repeat first | exact At.here | apply At.there) | exact SH.rsO H (by repeat first | exact At.here | apply At.there)) (by omega) | exact Rs.toL (by first | assumption | exact SH.rsR H (by repeat first | exact At.here | apply At.there) | exact SH.rsO H (by repeat first | exact At.here | apply At.there)) (by omega) | exact Rs.toLH (by first | assumption | exact SH.rsR H (by repeat first | exact At.here | apply At.there) | exact SH.rsO H (by repeat first | exact At.here | apply At.there)) (by omega) (by omega) | exact (Rs.nil : Rs Non _ _ _)) | (simp only [List.all_cons, List.all_nil, Bool.and_true, Bool.and_eq_true, Row.cells, Flight.L]; (repeat' constructor) <;> first | rfl | exact Rs.oneC (by first | assumption | exact SH.rsR H (by repeat first | exact At.here | apply At.there) | exact SH.rsO H (by repeat first | exact At.here | apply At.there) | exact Rs.toH (by first | assumption | exact SH.rsR H (by repeat first | exact At.here | apply At.there) | exact SH.rsO H (by repeat first | exact At.here | apply At.there)) (by omega) | exact Rs.toL (by first | assumption | exact SH.rsR H (by repeat first | exact At.here | apply At.there) | exact SH.rsO H (by repeat first | exact At.here | apply At.there)) (by omega) | exact Rs.toLH (by first | assumption | exact SH.rsR H (by repeat first | exact At.here | apply At.there) | exact SH.rsO H (by repeat first | exact At.here | apply At.there)) (by omega) (by omega) | exact (Rs.nil : Rs Non _ _ _)))) (show At _ 2 _ from rfl) hy0 (by rfl) (by rfl) (by rw [hx3]; rfl) (by first | rfl | exact Rs.oneC (by first | assumption | exact SH.rsR H (by repeat first | exact At.here | apply At.there) | exact SH.rsO H (by repeat first | exact At.here | apply At.there) | exact Rs.toH (by first | assumption | exact SH.rsR H (by repeat first | exact At.here | apply At.there) | exact SH.rsO H (by repeat first | exact At.here | apply At.there)) (by omega) | exact Rs.toL (by first | assumption | exact SH.rsR H (by repeat first | exact At.here | apply At.there) | exact SH.rsO H (by repeat first | exact At.here | apply At.there)) (by omega) | exact Rs.toLH (by first | assumption | exact SH.rsR H (by repeat first | exact At.here | apply At.there) | exact SH.rsO H (by repeat first | exact At.here | apply At.there)) (by omega) (by omega) | exact (Rs.nil : Rs Non _ _ _)) | (simp only [List.all_cons, List.all_nil, Bool.and_true, Bool.and_eq_true, Row.cells, Flight.L]; (repeat' constructor) <;> first | rfl | exact Rs.oneC (by first | assumption | exact SH.rsR H (by repeat first | exact At.here | apply At.there) | exact SH.rsO H (by repeat first | exact At.here | apply At.there) | exact Rs.toH (by first | assumption | exact SH.rsR H (by repeat first | exact At.here | apply At.there) | exact SH.rsO H (by repeat first | exact At.here | apply At.there)) (by omega) | exact Rs.toL (by first | assumption | exact SH.rsR H (by repeat first | exact At.here | apply At.there) | exact SH.rsO H (by repeat first | exact At.here | apply At.there)) (by omega) | exact Rs.toLH (by first | assumption | exact SH.rsR H (by repeat first | exact At.here | apply At.there) | exact SH.rsO H (by repeat first | exact At.here | apply At.there)) (by omega) (by omega) | exact (Rs.nil : Rs Non _ _ _)))) ?_
    clear H
    intro w18_6 H
    try dsimp only [replC, List.cons_append, List.nil_append, List.append_nil, agg, cellsL, Value.cells, List.toList_toArray, List.set_cons_zero, List.set_cons_succ, spliceL, List.take_succ_cons, List.take_zero, List.drop_succ_cons, List.drop_zero, List.length_cons, List.length_nil, Nat.reduceAdd, Row.cells, Flight.L] at H
    refine LW.nil ?_
    refine thenE_norm (h20 _ _ ?_); clear h20; try clear K20
    refine CW.seq (fun K21 h21 => ?_)
    refine CW.region ?_
    refine r_move rfl ?_
    refine r_call rfl Try.call14 (by simp only [List.map_cons, List.map_nil, List.map_toArray, List.toList_toArray, upd_get, ev, Nat.reduceEqDiff, ↓reduceIte] <;> rfl) (Take_c _ _ (SH.prop H (by repeat first | exact At.here | apply At.there))) ?_
    rintro _ w19_1 ⟨v19_1, g19_1, FN19_1, rfl, K⟩
    refine ⟨_, rfl, ?_⟩
    replace H := SH.updP H (by repeat first | exact At.here | apply At.there) K
    clear K
    try dsimp only [replC, List.cons_append, List.nil_append, List.append_nil, agg, cellsL, Value.cells, List.toList_toArray, List.set_cons_zero, List.set_cons_succ, spliceL, List.take_succ_cons, List.take_zero, List.drop_succ_cons, List.drop_zero, List.length_cons, List.length_nil, Nat.reduceAdd, Row.cells, Flight.L] at H
    rw [netAt_in (m := ⟨0, 0, 0, xs⟩) (by decide) rfl] at H ⊢
    dsimp only at H ⊢
    refine r_move rfl ?_
    refine r_extract rfl (by simp only [upd_get, ev, Nat.reduceEqDiff, ↓reduceIte] <;> rfl) (by simp only [List.getElem?_toArray, List.getElem?_cons_zero, List.getElem?_cons_succ] <;> rfl) ?_
    refine r_extract rfl (by simp only [upd_get, ev, Nat.reduceEqDiff, ↓reduceIte] <;> rfl) (by simp only [List.getElem?_toArray, List.getElem?_cons_zero, List.getElem?_cons_succ] <;> rfl) ?_
    refine s_alloc (cs := [.int .i64 0, .int .i64 0, .int .i64 0, .slice none 0 0]) H rfl Try.zeroValue29 rfl ?_
    clear H
    intro b19_5 w19_5 H
    try dsimp only [replC, List.cons_append, List.nil_append, List.append_nil, agg, cellsL, Value.cells, List.toList_toArray, List.set_cons_zero, List.set_cons_succ, spliceL, List.take_succ_cons, List.take_zero, List.drop_succ_cons, List.drop_zero, List.length_cons, List.length_nil, Nat.reduceAdd, Row.cells, Flight.L] at H
    refine s_storeA H Try.sizeOf29 rfl (by simp only [upd_get, ev, Nat.reduceEqDiff, ↓reduceIte] <;> rfl) (by simp only [cellsL, agg, List.toList_toArray, Row.cells, Flight.L] <;> rfl) (by rfl) (by first | rfl | exact Rs.oneC (by first | assumption | exact SH.rsR H (by repeat first | exact At.here | apply At.there) | exact SH.rsO H (by repeat first | exact At.here | apply At.there) | exact Rs.toH (by first | assumption | exact SH.rsR H (by repeat first | exact At.here | apply At.there) | exact SH.rsO H (by repeat first | exact At.here | apply At.there)) (by omega) | exact Rs.toL (by first | assumption | exact SH.rsR H (by repeat first | exact At.here | apply At.there) | exact SH.rsO H (by repeat first | exact At.here | apply At.there)) (by omega) | exact Rs.toLH (by first | assumption | exact SH.rsR H (by repeat first | exact At.here | apply At.there) | exact SH.rsO H (by repeat first | exact At.here | apply At.there)) (by omega) (by omega) | exact (Rs.nil : Rs Non _ _ _)) | (simp only [List.all_cons, List.all_nil, Bool.and_true, Bool.and_eq_true, Row.cells, Flight.L]; (repeat' constructor) <;> first | rfl | exact Rs.oneC (by first | assumption | exact SH.rsR H (by repeat first | exact At.here | apply At.there) | exact SH.rsO H (by repeat first | exact At.here | apply At.there) | exact Rs.toH (by first | assumption | exact SH.rsR H (by repeat first | exact At.here | apply At.there) | exact SH.rsO H (by repeat first | exact At.here | apply At.there)) (by omega) | exact Rs.toL (by first | assumption | exact SH.rsR H (by repeat first | exact At.here | apply At.there) | exact SH.rsO H (by repeat first | exact At.here | apply At.there)) (by omega) | exact Rs.toLH (by first | assumption | exact SH.rsR H (by repeat first | exact At.here | apply At.there) | exact SH.rsO H (by repeat first | exact At.here | apply At.there)) (by omega) (by omega) | exact (Rs.nil : Rs Non _ _ _)))) (by repeat first | exact At.here | apply At.there) (by first | (simp; done) | decide | (show _ ≤ _; decide)) ?_
    clear H
    intro w19_6 H
    try dsimp only [replC, List.cons_append, List.nil_append, List.append_nil, agg, cellsL, Value.cells, List.toList_toArray, List.set_cons_zero, List.set_cons_succ, spliceL, List.take_succ_cons, List.take_zero, List.drop_succ_cons, List.drop_zero, List.length_cons, List.length_nil, Nat.reduceAdd, Row.cells, Flight.L] at H
    refine r_assign rfl ?_
    refine LW.nil ?_
    refine thenE_norm ?_
    refine cut (K := K21) [0, 7, 8, 12, 13, 14, 15] (fun σ => ?_)
    simp only [setL, keepE, upd_get, ev, Nat.reduceEqDiff, ↓reduceIte]
    refine h21 _ _ ?_; clear h21; try clear K21
    refine CW.seq (fun K22 h22 => ?_)
    refine CW.region ?_
    refine r_move rfl ?_
    refine r_eql rfl rfl rfl ?_
    refine r_move rfl ?_
    refine LW.known (t := 96) (c := true) rfl (by first | rfl | (simp only [decide_eq_true_eq, decide_eq_false_iff_not, Bool.and_eq_true, Bool.or_eq_true, Bool.and_eq_false_iff, Bool.or_eq_false_iff, Bool.not_eq_true', Bool.not_eq_false', beq_iff_eq, bne_iff_ne]; omega) | simp_all) (fun hg20_3 => ?_)
    refine LW.want rfl rfl hg20_3 ?_
    refine r_move rfl ?_
    refine LW.want rfl rfl hg20_3 ?_
    refine r_eql rfl rfl rfl ?_
    refine r_pickT rfl rfl hg20_3 ?_
    refine r_move rfl ?_
    refine LW.known (t := 100) (c := true) rfl (by first | rfl | (simp only [decide_eq_true_eq, decide_eq_false_iff_not, Bool.and_eq_true, Bool.or_eq_true, Bool.and_eq_false_iff, Bool.or_eq_false_iff, Bool.not_eq_true', Bool.not_eq_false', beq_iff_eq, bne_iff_ne]; omega) | simp_all) (fun hg20_7 => ?_)
    refine LW.want rfl rfl hg20_7 ?_
    refine r_move rfl ?_
    refine r_pickT rfl rfl hg20_7 ?_
    refine r_move rfl ?_
    refine LW.known (t := 103) (c := true) rfl (by first | rfl | (simp only [decide_eq_true_eq, decide_eq_false_iff_not, Bool.and_eq_true, Bool.or_eq_true, Bool.and_eq_false_iff, Bool.or_eq_false_iff, Bool.not_eq_true', Bool.not_eq_false', beq_iff_eq, bne_iff_ne]; omega) | simp_all) (fun hg20_10 => ?_)
    refine LW.want rfl rfl hg20_10 ?_
    refine r_move rfl ?_
    refine r_pickT rfl rfl hg20_10 ?_
    refine r_move rfl ?_
    refine LW.known (t := 106) (c := true) rfl (by first | rfl | (simp only [decide_eq_true_eq, decide_eq_false_iff_not, Bool.and_eq_true, Bool.or_eq_true, Bool.and_eq_false_iff, Bool.or_eq_false_iff, Bool.not_eq_true', Bool.not_eq_false', beq_iff_eq, bne_iff_ne]; omega) | simp_all) (fun hg20_13 => ?_)
    refine LW.want rfl rfl hg20_13 ?_
    refine r_move rfl ?_
    refine LW.want rfl rfl hg20_13 ?_
    refine r_move rfl ?_
    refine LW.want rfl rfl hg20_13 ?_
    refine r_b2sV rfl Try.underlying22 Try.underlying5 Try.underlying9 (by simp only [upd_get, ev, Nat.reduceEqDiff, ↓reduceIte] <;> rfl) (by first | assumption | exact SH.rsR H (by repeat first | exact At.here | apply At.there) | exact SH.rsO H (by repeat first | exact At.here | apply At.there) | exact Rs.toH (by first | assumption | exact SH.rsR H (by repeat first | exact At.here | apply At.there) | exact SH.rsO H (by repeat first | exact At.here | apply At.there)) (by omega) | exact Rs.toL (by first | assumption | exact SH.rsR H (by repeat first | exact At.here | apply At.there) | exact SH.rsO H (by repeat first | exact At.here | apply At.there)) (by omega) | exact Rs.toLH (by first | assumption | exact SH.rsR H (by repeat first | exact At.here | apply At.there) | exact SH.rsO H (by repeat first | exact At.here | apply At.there)) (by omega) (by omega) | exact (Rs.nil : Rs Non _ _ _)) (fun _ => rfl) ?_
    refine LW.want rfl rfl hg20_13 ?_
    refine r_eqlS rfl rfl rfl ?_
    refine r_pickT rfl rfl hg20_13 ?_
    refine r_move rfl ?_
    refine LW.known (t := 112) (c := true) rfl (by simp) (fun hg20_19 => ?_)
    refine LW.want rfl rfl hg20_19 ?_
    refine r_fieldAddrO rfl Try.underlying29 rfl Try.sizeOf22 (by decide) (show _ = 3 from rfl) rfl ?_
    refine LW.want rfl rfl hg20_19 ?_
    refine r_load rfl Try.isAgg22 rfl (by first | exact SH.cellB H (by repeat first | exact At.here | apply At.there) (by rfl) | exact SH.cellI H (by repeat first | exact At.here | apply At.there) (by rfl) | exact Rs.cell (by first | assumption | exact SH.rsR H (by repeat first | exact At.here | apply At.there) | exact SH.rsO H (by repeat first | exact At.here | apply At.there) | exact Rs.toH (by first | assumption | exact SH.rsR H (by repeat first | exact At.here | apply At.there) | exact SH.rsO H (by repeat first | exact At.here | apply At.there)) (by omega) | exact Rs.toL (by first | assumption | exact SH.rsR H (by repeat first | exact At.here | apply At.there) | exact SH.rsO H (by repeat first | exact At.here | apply At.there)) (by omega) | exact Rs.toLH (by first | assumption | exact SH.rsR H (by repeat first | exact At.here | apply At.there) | exact SH.rsO H (by repeat first | exact At.here | apply At.there)) (by omega) (by omega) | exact (Rs.nil : Rs Non _ _ _)) (by assumption) (by rfl) | exact Rs.cell0 (by first | assumption | exact SH.rsR H (by repeat first | exact At.here | apply At.there) | exact SH.rsO H (by repeat first | exact At.here | apply At.there) | exact Rs.toH (by first | assumption | exact SH.rsR H (by repeat first | exact At.here | apply At.there) | exact SH.rsO H (by repeat first | exact At.here | apply At.there)) (by omega) | exact Rs.toL (by first | assumption | exact SH.rsR H (by repeat first | exact At.here | apply At.there) | exact SH.rsO H (by repeat first | exact At.here | apply At.there)) (by omega) | exact Rs.toLH (by first | assumption | exact SH.rsR H (by repeat first | exact At.here | apply At.there) | exact SH.rsO H (by repeat first | exact At.here | apply At.there)) (by omega) (by omega) | exact (Rs.nil : Rs Non _ _ _)) (by assumption) (by rfl) | assumption) ?_
    refine LW.want rfl rfl hg20_19 ?_
    refine r_b2sV rfl Try.underlying22 Try.underlying5 Try.underlying9 (by simp only [upd_get, ev, Nat.reduceEqDiff, ↓reduceIte] <;> rfl) (by first | assumption | exact SH.rsR H (by repeat first | exact At.here | apply At.there) | exact SH.rsO H (by repeat first | exact At.here | apply At.there) | exact Rs.toH (by first | assumption | exact SH.rsR H (by repeat first | exact At.here | apply At.there) | exact SH.rsO H (by repeat first | exact At.here | apply At.there)) (by omega) | exact Rs.toL (by first | assumption | exact SH.rsR H (by repeat first | exact At.here | apply At.there) | exact SH.rsO H (by repeat first | exact At.here | apply At.there)) (by omega) | exact Rs.toLH (by first | assumption | exact SH.rsR H (by repeat first | exact At.here | apply At.there) | exact SH.rsO H (by repeat first | exact At.here | apply At.there)) (by omega) (by omega) | exact (Rs.nil : Rs Non _ _ _)) (fun _ => rfl) ?_
    refine LW.want rfl rfl hg20_19 ?_
    refine r_move rfl ?_
    refine LW.want rfl rfl hg20_19 ?_
    refine r_b2sV rfl Try.underlying22 Try.underlying5 Try.underlying9 (by simp only [upd_get, ev, Nat.reduceEqDiff, ↓reduceIte] <;> rfl) (by first | assumption | exact SH.rsR H (by repeat first | exact At.here | apply At.there) | exact SH.rsO H (by repeat first | exact At.here | apply At.there) | exact Rs.toH (by first | assumption | exact SH.rsR H (by repeat first | exact At.here | apply At.there) | exact SH.rsO H (by repeat first | exact At.here | apply At.there)) (by omega) | exact Rs.toL (by first | assumption | exact SH.rsR H (by repeat first | exact At.here | apply At.there) | exact SH.rsO H (by repeat first | exact At.here | apply At.there)) (by omega) | exact Rs.toLH (by first | assumption | exact SH.rsR H (by repeat first | exact At.here | apply At.there) | exact SH.rsO H (by repeat first | exact At.here | apply At.there)) (by omega) (by omega) | exact (Rs.nil : Rs Non _ _ _)) (fun _ => rfl) ?_
    refine LW.want rfl rfl hg20_19 ?_
    refine r_eqlS rfl rfl rfl ?_
    refine r_pickT rfl rfl hg20_19 ?_
    refine r_move rfl ?_
    refine LW.known (t := 120) (c := true) rfl (by simp) (fun hg20_27 => ?_)
    refine LW.want rfl rfl hg20_27 ?_
    refine r_call rfl Try.call18 (by simp only [List.map_cons, List.map_nil, List.map_toArray, List.toList_toArray, upd_get, ev, Nat.reduceEqDiff, ↓reduceIte] <;> rfl) (awake26_c _) ?_
    rintro _ w20_27 ⟨rfl, X⟩
    refine ⟨_, rfl, ?_⟩
    replace H := SH.same H X
    clear X
    refine r_pickT rfl rfl hg20_27 ?_
    refine r_assign rfl ?_
    refine LW.nil ?_
    refine thenE_norm ?_
    refine cut (K := K22) [4] (fun σ => ?_)
    simp only [setL, keepE, upd_get, ev, Nat.reduceEqDiff, ↓reduceIte]
    refine h22 _ _ ?_; clear h22; try clear K22
    refine CW.ret (ret1 Try.results4 (by simp only [upd_get, ev, Nat.reduceEqDiff, ↓reduceIte]; rfl) ?_)
    exact ⟨rfl, H.ext⟩

/-- The flights of the numbers from 0 on. -/
def flB (i : Nat) : Fl := ⟨0, 0, i, []⟩
def rowB (n : Nat) : List Fl := (List.range n).map flB
theorem rowB_succ (n : Nat) : rowB (n + 1) = rowB n ++ [flB n] := by simp [rowB, List.range_succ]
theorem rowB_len (n : Nat) : (rowB n).length = n := by simp [rowB]
theorem rowB_get (n i : Nat) (h : i < n) : (rowB n)[i]? = some (flB i) := by simp [rowB, h]
theorem cut_len {ms : List Fl} {i : Int} (h0 : 0 ≤ i) (h1 : i < ms.length) : (netCut ms i).length + 1 = ms.length := by
  rw [netCut, if_pos ⟨h0, h1⟩, List.length_append, List.length_take, List.length_drop]; omega

set_option maxHeartbeats 4000000 in
theorem NetRoom_c (over long : Int) (twice : Bool) (w : World) (h0 : 0 ≤ over) (h1 : over < 256) (h2 : 0 ≤ long) (h3 : long < 65536) :
    Calls Try.prog 6 #[.int .u8 over, .int .u16 long, .bool twice] w fun e w' => e = .returned (.bool true) ∧ Ext0 w w' := by
  have H := SH.start (U := Non) (G := Any) w
  refine calls_of_CW Try.func6 rfl Try.ntmps6 (Nat.le_of_ble_eq_true rfl) ?_
  simp only [argE, argFrom, Nat.reduceAdd]
  refine CW.seq (fun K1 h1 => ?_)
  refine CW.region ?_
  refine r_assign rfl ?_
  refine LW.nil ?_
  refine thenE_norm (h1 _ _ ?_); clear h1; try clear K1
  refine CW.seq (fun K2 h2 => ?_)
  refine CW.region ?_
  refine r_call rfl Try.call12 (by simp only [List.map_cons, List.map_nil, List.map_toArray, List.toList_toArray, upd_get, ev, Nat.reduceEqDiff, ↓reduceIte] <;> rfl) (NetNew_c _) ?_
  rintro _ w1_0 ⟨p, FN, rfl, K⟩
  refine ⟨_, rfl, ?_⟩
  replace H := SH.call H K
  clear K
  try dsimp only [replC, List.cons_append, List.nil_append, List.append_nil, agg, cellsL, Value.cells, List.toList_toArray, List.set_cons_zero, List.set_cons_succ, spliceL, List.take_succ_cons, List.take_zero, List.drop_succ_cons, List.drop_zero, List.length_cons, List.length_nil, Nat.reduceAdd, Row.cells, Flight.L] at H
  refine r_assign rfl ?_
  refine LW.nil ?_
  refine thenE_norm (h2 _ _ ?_); clear h2; try clear K2
  refine CW.seq (fun K3 h3 => ?_)
  refine CW.seq (fun K4 h4 => ?_)
  refine CW.region ?_
  refine r_move rfl ?_
  refine r_eqlP rfl Try.underlying23 rfl rfl ?_
  refine LW.nil ?_
  refine thenE_norm (h4 _ _ ?_); clear h4; try clear K4
  refine CW.condF rfl (by first | rfl | (simp only [decide_eq_true_eq, decide_eq_false_iff_not, Bool.and_eq_true, Bool.or_eq_true, Bool.and_eq_false_iff, Bool.or_eq_false_iff, Bool.not_eq_true', Bool.not_eq_false', beq_iff_eq, bne_iff_ne]; omega) | simp_all) ?_
  refine CW.skip ?_
  refine thenE_norm (h3 _ _ ?_); clear h3; try clear K3
  refine CW.seq (fun K5 h5 => ?_)
  refine CW.seq (fun K6 h6 => ?_)
  refine CW.region ?_
  refine r_assign rfl ?_
  refine LW.nil ?_
  refine thenE_norm (h6 _ _ ?_); clear h6; try clear K6
  refine CW.block ?_
  refine CW.loopR [0, 1, 2, 7] [8] (fun m vs w' => ∃ (i : Nat) (FN : Nat → Prop), vs = [.int .i64 i] ∧ i ≤ 600 ∧ m = 600 - i ∧ SH Non Any w w' [.P FN (NetA p (rowB i) 0 FN)]) (600) ?_ ?_
  · exact ⟨0, _, rfl, by omega, by omega, H⟩
  try clear H
  rintro n1 vs1 wL1 σ ⟨i, FN, rfl, hi, rfl, H⟩
  simp only [setL, keepE, upd_get, ev, Nat.reduceEqDiff, ↓reduceIte]
  refine CW.seq (fun K7 h7 => ?_)
  refine CW.seq (fun K8 h8 => ?_)
  refine CW.region ?_
  refine r_move rfl ?_
  refine r_lss rfl rfl rfl ?_
  refine LW.nil ?_
  refine thenE_norm (h8 _ _ ?_); clear h8; try clear K8
  refine CW.cond rfl (fun hc2 => ?_) (fun hc2 => ?_)
  · try simp only [decide_eq_true_eq, decide_eq_false_iff_not, Bool.and_eq_true, Bool.or_eq_true, Bool.and_eq_false_iff, Bool.or_eq_false_iff, Bool.not_eq_true', Bool.not_eq_false', beq_iff_eq, bne_iff_ne, ne_eq, Decidable.not_not] at hc2
    refine CW.skip ?_
    refine thenE_norm (h7 _ _ ?_); clear h7; try clear K7
    refine CW.seq (fun K9 h9 => ?_)
    refine CW.block ?_
    refine CW.seq (fun K10 h10 => ?_)
    refine CW.region ?_
    refine r_move rfl ?_
    refine r_move rfl ?_
    refine r_buildQ rfl Try.underlying29 Try.zeroValue29 rfl (pl := [(0, 1), (1, 1), (2, 1), (3, 1)]) (by intro w; simp [go_sem]) (qs := [(2, [_])]) (cs := [.int .i64 0, .int .i64 0, _, .slice none 0 0]) ⟨rfl, cells_one (by simp only [upd_get, ev, Nat.reduceEqDiff, ↓reduceIte] <;> rfl) (by first | rfl | exact Rs.oneC (by first | assumption | exact SH.rsR H (by repeat first | exact At.here | apply At.there) | exact SH.rsO H (by repeat first | exact At.here | apply At.there) | exact Rs.toH (by first | assumption | exact SH.rsR H (by repeat first | exact At.here | apply At.there) | exact SH.rsO H (by repeat first | exact At.here | apply At.there)) (by omega) | exact Rs.toL (by first | assumption | exact SH.rsR H (by repeat first | exact At.here | apply At.there) | exact SH.rsO H (by repeat first | exact At.here | apply At.there)) (by omega) | exact Rs.toLH (by first | assumption | exact SH.rsR H (by repeat first | exact At.here | apply At.there) | exact SH.rsO H (by repeat first | exact At.here | apply At.there)) (by omega) (by omega) | exact (Rs.nil : Rs Non _ _ _))), trivial⟩ rfl ?_
    refine r_call rfl Try.call13 (by simp only [List.map_cons, List.map_nil, List.map_toArray, List.toList_toArray, upd_get, ev, Nat.reduceEqDiff, ↓reduceIte] <;> rfl) (Put_c (xs := []) ⟨0, 0, _, _⟩ _ (SH.prop H (by repeat first | exact At.here | apply At.there)) (Rs.nil : Rs Non _ _ _) (fun _ h => h.elim) (by omega) (by omega)) ?_
    rintro _ w7_3 ⟨FN7_3, rfl, K⟩
    refine ⟨_, rfl, ?_⟩
    replace H := SH.updP H (by repeat first | exact At.here | apply At.there) K
    clear K
    try dsimp only [replC, List.cons_append, List.nil_append, List.append_nil, agg, cellsL, Value.cells, List.toList_toArray, List.set_cons_zero, List.set_cons_succ, spliceL, List.take_succ_cons, List.take_zero, List.drop_succ_cons, List.drop_zero, List.length_cons, List.length_nil, Nat.reduceAdd, Row.cells, Flight.L] at H
    rw [put_ok (by simp) (by rw [rowB_len]; omega)] at H ⊢
    dsimp only at H ⊢
    refine r_neq rfl rfl rfl ?_
    refine LW.nil ?_
    refine thenE_norm (h10 _ _ ?_); clear h10; try clear K10
    refine CW.condF rfl (by simp) ?_
    refine CW.skip ?_
    refine blockE_norm ?_
    refine thenE_norm (h9 _ _ ?_); clear h9; try clear K9
    refine CW.region ?_
    refine r_move rfl ?_
    refine r_add rfl rfl rfl (wr_i64 (by omega) (by omega)) ?_
    refine r_assign rfl ?_
    refine LW.nil ?_
    refine thenE_norm ⟨rfl, ?_⟩
    exact ⟨_, by omega, i + 1, _, rfl, by omega, rfl, by rw [rowB_succ]; exact H⟩
  · try simp only [decide_eq_true_eq, decide_eq_false_iff_not, Bool.and_eq_true, Bool.or_eq_true, Bool.and_eq_false_iff, Bool.or_eq_false_iff, Bool.not_eq_true', Bool.not_eq_false', beq_iff_eq, bne_iff_ne, ne_eq, Decidable.not_not] at hc2
    refine CW.exit (thenE_exit (thenE_exit (blockE_hit ?_)))
    refine thenE_norm (h5 _ _ ?_); clear h5; try clear K5
    refine CW.seq (fun K11 h11 => ?_)
    refine CW.seq (fun K12 h12 => ?_)
    refine CW.region ?_
    refine r_assign rfl ?_
    refine LW.nil ?_
    refine thenE_norm (h12 _ _ ?_); clear h12; try clear K12
    refine CW.block ?_
    obtain rfl : i = 600 := by omega
    have hk0 := Int.emod_nonneg over (show (20 : Int) ≠ 0 from by decide)
    have hk1 := Int.emod_lt_of_pos over (show (0 : Int) < 20 from by decide)
    have hm0 := Int.emod_nonneg long (show (3000 : Int) ≠ 0 from by decide)
    have hm1 := Int.emod_lt_of_pos long (show (0 : Int) < 3000 from by decide)
    have hlen := rowB_len 600
    have hget := rowB_get 600
    generalize hR : rowB 600 = R at *
    refine CW.loopR [0, 1, 2, 7] [9] (fun m vs w' => ∃ (i : Nat) (FN : Nat → Prop), vs = [.int .i64 i] ∧ i ≤ over % 20 ∧ m = (over % 20 - i).toNat ∧ SH Non Any w w' [.P FN (NetA p R i FN)]) ((over % 20).toNat) ?_ ?_
    · exact ⟨0, _, rfl, by omega, by omega, H⟩
    try clear H
    rintro n2 vs2 wL2 σ ⟨k, FN, rfl, hk, rfl, H⟩
    simp only [setL, keepE, upd_get, ev, Nat.reduceEqDiff, ↓reduceIte]
    refine CW.seq (fun K13 h13 => ?_)
    refine CW.seq (fun K14 h14 => ?_)
    refine CW.region ?_
    refine r_move rfl ?_
    refine r_move rfl ?_
    refine r_convI rfl Try.underlying5 Try.underlying3 rfl (wr_i64 (by omega) (by omega)) ?_
    refine r_rem rfl rfl rfl (by omega) (by omega) (wr_i64 (by omega) (by omega)) ?_
    refine r_lss rfl rfl rfl ?_
    refine LW.nil ?_
    refine thenE_norm (h14 _ _ ?_); clear h14; try clear K14
    refine CW.cond rfl (fun hc4 => ?_) (fun hc4 => ?_)
    · try simp only [decide_eq_true_eq, decide_eq_false_iff_not, Bool.and_eq_true, Bool.or_eq_true, Bool.and_eq_false_iff, Bool.or_eq_false_iff, Bool.not_eq_true', Bool.not_eq_false', beq_iff_eq, bne_iff_ne, ne_eq, Decidable.not_not] at hc4
      refine CW.skip ?_
      refine thenE_norm (h13 _ _ ?_); clear h13; try clear K13
      refine CW.seq (fun K15 h15 => ?_)
      refine CW.block ?_
      refine CW.seq (fun K16 h16 => ?_)
      refine CW.region ?_
      refine r_assign rfl ?_
      refine LW.nil ?_
      refine thenE_norm (h16 _ _ ?_); clear h16; try clear K16
      refine CW.seq (fun K17 h17 => ?_)
      refine CW.seq (fun K18 h18 => ?_)
      refine CW.region ?_
      refine r_move rfl ?_
      refine LW.nil ?_
      refine thenE_norm (h18 _ _ ?_); clear h18; try clear K18
      refine CW.cond rfl (fun hc5 => ?_) (fun hc5 => ?_)
      · try simp only [decide_eq_true_eq, decide_eq_false_iff_not, Bool.and_eq_true, Bool.or_eq_true, Bool.and_eq_false_iff, Bool.or_eq_false_iff, Bool.not_eq_true', Bool.not_eq_false', beq_iff_eq, bne_iff_ne, ne_eq, Decidable.not_not] at hc5
        refine CW.region ?_
        refine r_move rfl ?_
        refine r_move rfl ?_
        refine r_call rfl Try.call19 (by simp only [List.map_cons, List.map_nil, List.map_toArray, List.toList_toArray, upd_get, ev, Nat.reduceEqDiff, ↓reduceIte] <;> rfl) (Twice_c k _ (SH.prop H (by repeat first | exact At.here | apply At.there)) (by omega) (by omega)) ?_
        rintro _ w14_2 ⟨FN14_2, rfl, K⟩
        refine ⟨_, rfl, ?_⟩
        replace H := SH.updP H (by repeat first | exact At.here | apply At.there) K
        clear K
        try dsimp only [replC, List.cons_append, List.nil_append, List.append_nil, agg, cellsL, Value.cells, List.toList_toArray, List.set_cons_zero, List.set_cons_succ, spliceL, List.take_succ_cons, List.take_zero, List.drop_succ_cons, List.drop_zero, List.length_cons, List.length_nil, Nat.reduceAdd, Row.cells, Flight.L] at H
        rw [twice_in (by omega) (hget k (by omega)), put_full (by simp [flB]) (by omega)] at H ⊢
        dsimp only at H ⊢
        refine r_assign rfl ?_
        refine LW.nil ?_
        refine thenE_norm ?_
        refine cut (K := K17) [0, 1, 2, 7, 9, 10] (fun σ => ?_)
        simp only [setL, keepE, upd_get, ev, Nat.reduceEqDiff, ↓reduceIte]
        refine h17 _ _ ?_; clear h17; try clear K17
        refine CW.seq (fun K19 h19 => ?_)
        refine CW.region ?_
        refine r_move rfl ?_
        refine r_neq rfl rfl rfl ?_
        refine r_move rfl ?_
        refine' LW.grpOr (n := 6) (ts := [0, 1, 2, 7, 9, 53]) (d := 52) (tj := 46) rfl (fun hg16_3 => ?_) (fun hg16_3 => ?_) (fun σ => ?_)
        rotate_left
        · simp only [List.take_succ_cons, List.take_zero]
          have hg16_3P := hg16_3
          try simp only [decide_eq_true_eq, decide_eq_false_iff_not, Bool.and_eq_true, Bool.or_eq_true, Bool.and_eq_false_iff, Bool.or_eq_false_iff, Bool.not_eq_true', Bool.not_eq_false', beq_iff_eq, bne_iff_ne] at hg16_3P
          refine LW.want rfl rfl hg16_3 ?_
          refine r_move rfl ?_
          refine LW.want rfl rfl hg16_3 ?_
          refine r_call rfl Try.call23 (by simp only [List.map_cons, List.map_nil, List.map_toArray, List.toList_toArray, upd_get, ev, Nat.reduceEqDiff, ↓reduceIte] <;> rfl) (Lost_c _ (SH.prop H (by repeat first | exact At.here | apply At.there))) ?_
          rintro _ _ ⟨rfl, rfl⟩
          refine ⟨_, rfl, ?_⟩
          refine LW.want rfl rfl hg16_3 ?_
          refine r_move rfl ?_
          refine LW.want rfl rfl hg16_3 ?_
          refine r_add rfl rfl rfl (wr_i64 (by omega) (by omega)) ?_
          refine LW.want rfl rfl hg16_3 ?_
          refine r_neq rfl rfl rfl ?_
          refine r_pickF rfl rfl hg16_3 ?_
          refine LW.nil (thenE_norm ⟨rfl, rfl, rfl⟩)
        · simp only [List.take_succ_cons, List.take_zero]
          refine LW.skip rfl (fun _ e => by cases e; decide) rfl hg16_3 ?_
          refine LW.skip rfl (fun _ e => by cases e; decide) rfl hg16_3 ?_
          refine LW.skip rfl (fun _ e => by cases e; decide) rfl hg16_3 ?_
          refine LW.skip rfl (fun _ e => by cases e; decide) rfl hg16_3 ?_
          refine LW.skip rfl (fun _ e => by cases e; decide) rfl hg16_3 ?_
          refine r_pickT rfl rfl hg16_3 ?_
          refine LW.nil (thenE_norm ⟨rfl, rfl, rfl⟩)
        simp only [setL, keepE, upd_get, ev, Nat.reduceEqDiff, ↓reduceIte]; simp only [List.drop_succ_cons, List.drop_zero]
        refine r_move rfl ?_
        refine' LW.grpOr (n := 4) (ts := [0, 1, 2, 7, 9]) (d := 57) (tj := 53) rfl (fun hg16_10 => ?_) (fun hg16_10 => ?_) (fun σ => ?_)
        rotate_left
        · simp only [List.take_succ_cons, List.take_zero]
          have hg16_10P := hg16_10
          try simp only [decide_eq_true_eq, decide_eq_false_iff_not, Bool.and_eq_true, Bool.or_eq_true, Bool.and_eq_false_iff, Bool.or_eq_false_iff, Bool.not_eq_true', Bool.not_eq_false', beq_iff_eq, bne_iff_ne] at hg16_10P
          refine LW.want rfl rfl hg16_10 ?_
          refine r_move rfl ?_
          refine LW.want rfl rfl hg16_10 ?_
          refine r_call rfl Try.call17 (by simp only [List.map_cons, List.map_nil, List.map_toArray, List.toList_toArray, upd_get, ev, Nat.reduceEqDiff, ↓reduceIte] <;> rfl) (Len_c _ (SH.prop H (by repeat first | exact At.here | apply At.there))) ?_
          rintro _ _ ⟨rfl, rfl⟩
          refine ⟨_, rfl, ?_⟩
          refine LW.want rfl rfl hg16_10 ?_
          refine r_neq rfl rfl rfl ?_
          refine r_pickF rfl rfl hg16_10 ?_
          refine LW.nil (thenE_norm ⟨rfl, rfl, rfl⟩)
        · simp only [List.take_succ_cons, List.take_zero]
          refine LW.skip rfl (fun _ e => by cases e; decide) rfl hg16_10 ?_
          refine LW.skip rfl (fun _ e => by cases e; decide) rfl hg16_10 ?_
          refine LW.skip rfl (fun _ e => by cases e; decide) rfl hg16_10 ?_
          refine r_pickT rfl rfl hg16_10 ?_
          refine LW.nil (thenE_norm ⟨rfl, rfl, rfl⟩)
        simp only [setL, keepE, upd_get, ev, Nat.reduceEqDiff, ↓reduceIte]; simp only [List.drop_succ_cons, List.drop_zero]
        refine LW.nil ?_
        refine thenE_norm (h19 _ _ ?_); clear h19; try clear K19
        refine CW.condF rfl (by simp; omega) ?_
        refine CW.skip ?_
        refine blockE_norm ?_
        refine thenE_norm (h15 _ _ ?_); clear h15; try clear K15
        refine CW.region ?_
        refine r_move rfl ?_
        refine r_add rfl rfl rfl (wr_i64 (by omega) (by omega)) ?_
        refine r_assign rfl ?_
        refine LW.nil ?_
        refine thenE_norm ⟨rfl, ?_⟩
        exact ⟨_, by omega, k + 1, _, rfl, by omega, rfl, H⟩
      · try simp only [decide_eq_true_eq, decide_eq_false_iff_not, Bool.and_eq_true, Bool.or_eq_true, Bool.and_eq_false_iff, Bool.or_eq_false_iff, Bool.not_eq_true', Bool.not_eq_false', beq_iff_eq, bne_iff_ne, ne_eq, Decidable.not_not] at hc5
        refine CW.region ?_
        refine r_move rfl ?_
        refine r_buildQ rfl Try.underlying29 Try.zeroValue29 rfl (pl := [(0, 1), (1, 1), (2, 1), (3, 1)]) (by intro w; simp [go_sem]) (qs := []) (cs := [.int .i64 0, .int .i64 0, .int .i64 0, .slice none 0 0]) trivial rfl ?_
        refine r_call rfl Try.call13 (by simp only [List.map_cons, List.map_nil, List.map_toArray, List.toList_toArray, upd_get, ev, Nat.reduceEqDiff, ↓reduceIte] <;> rfl) (Put_c (xs := []) ⟨0, 0, 0, _⟩ _ (SH.prop H (by repeat first | exact At.here | apply At.there)) (Rs.nil : Rs Non _ _ _) (fun _ h => h.elim) (by omega) (by omega)) ?_
        rintro _ w15_2 ⟨FN15_2, rfl, K⟩
        refine ⟨_, rfl, ?_⟩
        replace H := SH.updP H (by repeat first | exact At.here | apply At.there) K
        clear K
        try dsimp only [replC, List.cons_append, List.nil_append, List.append_nil, agg, cellsL, Value.cells, List.toList_toArray, List.set_cons_zero, List.set_cons_succ, spliceL, List.take_succ_cons, List.take_zero, List.drop_succ_cons, List.drop_zero, List.length_cons, List.length_nil, Nat.reduceAdd, Row.cells, Flight.L] at H
        rw [put_full (by simp) (by omega)] at H ⊢
        dsimp only at H ⊢
        refine r_assign rfl ?_
        refine LW.nil ?_
        refine thenE_norm ?_
        refine cut (K := K17) [0, 1, 2, 7, 9, 10] (fun σ => ?_)
        simp only [setL, keepE, upd_get, ev, Nat.reduceEqDiff, ↓reduceIte]
        refine h17 _ _ ?_; clear h17; try clear K17
        refine CW.seq (fun K20 h20 => ?_)
        refine CW.region ?_
        refine r_move rfl ?_
        refine r_neq rfl rfl rfl ?_
        refine r_move rfl ?_
        refine' LW.grpOr (n := 6) (ts := [0, 1, 2, 7, 9, 53]) (d := 52) (tj := 46) rfl (fun hg16_3 => ?_) (fun hg16_3 => ?_) (fun σ => ?_)
        rotate_left
        · simp only [List.take_succ_cons, List.take_zero]
          have hg16_3P := hg16_3
          try simp only [decide_eq_true_eq, decide_eq_false_iff_not, Bool.and_eq_true, Bool.or_eq_true, Bool.and_eq_false_iff, Bool.or_eq_false_iff, Bool.not_eq_true', Bool.not_eq_false', beq_iff_eq, bne_iff_ne] at hg16_3P
          refine LW.want rfl rfl hg16_3 ?_
          refine r_move rfl ?_
          refine LW.want rfl rfl hg16_3 ?_
          refine r_call rfl Try.call23 (by simp only [List.map_cons, List.map_nil, List.map_toArray, List.toList_toArray, upd_get, ev, Nat.reduceEqDiff, ↓reduceIte] <;> rfl) (Lost_c _ (SH.prop H (by repeat first | exact At.here | apply At.there))) ?_
          rintro _ _ ⟨rfl, rfl⟩
          refine ⟨_, rfl, ?_⟩
          refine LW.want rfl rfl hg16_3 ?_
          refine r_move rfl ?_
          refine LW.want rfl rfl hg16_3 ?_
          refine r_add rfl rfl rfl (wr_i64 (by omega) (by omega)) ?_
          refine LW.want rfl rfl hg16_3 ?_
          refine r_neq rfl rfl rfl ?_
          refine r_pickF rfl rfl hg16_3 ?_
          refine LW.nil (thenE_norm ⟨rfl, rfl, rfl⟩)
        · simp only [List.take_succ_cons, List.take_zero]
          refine LW.skip rfl (fun _ e => by cases e; decide) rfl hg16_3 ?_
          refine LW.skip rfl (fun _ e => by cases e; decide) rfl hg16_3 ?_
          refine LW.skip rfl (fun _ e => by cases e; decide) rfl hg16_3 ?_
          refine LW.skip rfl (fun _ e => by cases e; decide) rfl hg16_3 ?_
          refine LW.skip rfl (fun _ e => by cases e; decide) rfl hg16_3 ?_
          refine r_pickT rfl rfl hg16_3 ?_
          refine LW.nil (thenE_norm ⟨rfl, rfl, rfl⟩)
        simp only [setL, keepE, upd_get, ev, Nat.reduceEqDiff, ↓reduceIte]; simp only [List.drop_succ_cons, List.drop_zero]
        refine r_move rfl ?_
        refine' LW.grpOr (n := 4) (ts := [0, 1, 2, 7, 9]) (d := 57) (tj := 53) rfl (fun hg16_10 => ?_) (fun hg16_10 => ?_) (fun σ => ?_)
        rotate_left
        · simp only [List.take_succ_cons, List.take_zero]
          have hg16_10P := hg16_10
          try simp only [decide_eq_true_eq, decide_eq_false_iff_not, Bool.and_eq_true, Bool.or_eq_true, Bool.and_eq_false_iff, Bool.or_eq_false_iff, Bool.not_eq_true', Bool.not_eq_false', beq_iff_eq, bne_iff_ne] at hg16_10P
          refine LW.want rfl rfl hg16_10 ?_
          refine r_move rfl ?_
          refine LW.want rfl rfl hg16_10 ?_
          refine r_call rfl Try.call17 (by simp only [List.map_cons, List.map_nil, List.map_toArray, List.toList_toArray, upd_get, ev, Nat.reduceEqDiff, ↓reduceIte] <;> rfl) (Len_c _ (SH.prop H (by repeat first | exact At.here | apply At.there))) ?_
          rintro _ _ ⟨rfl, rfl⟩
          refine ⟨_, rfl, ?_⟩
          refine LW.want rfl rfl hg16_10 ?_
          refine r_neq rfl rfl rfl ?_
          refine r_pickF rfl rfl hg16_10 ?_
          refine LW.nil (thenE_norm ⟨rfl, rfl, rfl⟩)
        · simp only [List.take_succ_cons, List.take_zero]
          refine LW.skip rfl (fun _ e => by cases e; decide) rfl hg16_10 ?_
          refine LW.skip rfl (fun _ e => by cases e; decide) rfl hg16_10 ?_
          refine LW.skip rfl (fun _ e => by cases e; decide) rfl hg16_10 ?_
          refine r_pickT rfl rfl hg16_10 ?_
          refine LW.nil (thenE_norm ⟨rfl, rfl, rfl⟩)
        simp only [setL, keepE, upd_get, ev, Nat.reduceEqDiff, ↓reduceIte]; simp only [List.drop_succ_cons, List.drop_zero]
        refine LW.nil ?_
        refine thenE_norm (h20 _ _ ?_); clear h20; try clear K20
        refine CW.condF rfl (by simp; omega) ?_
        refine CW.skip ?_
        refine blockE_norm ?_
        refine thenE_norm (h15 _ _ ?_); clear h15; try clear K15
        refine CW.region ?_
        refine r_move rfl ?_
        refine r_add rfl rfl rfl (wr_i64 (by omega) (by omega)) ?_
        refine r_assign rfl ?_
        refine LW.nil ?_
        refine thenE_norm ⟨rfl, ?_⟩
        exact ⟨_, by omega, k + 1, _, rfl, by omega, rfl, H⟩
    · try simp only [decide_eq_true_eq, decide_eq_false_iff_not, Bool.and_eq_true, Bool.or_eq_true, Bool.and_eq_false_iff, Bool.or_eq_false_iff, Bool.not_eq_true', Bool.not_eq_false', beq_iff_eq, bne_iff_ne, ne_eq, Decidable.not_not] at hc4
      refine CW.exit (thenE_exit (thenE_exit (blockE_hit ?_)))
      refine thenE_norm (h11 _ _ ?_); clear h11; try clear K11
      refine CW.seq (fun K21 h21 => ?_)
      obtain hkk : (k : Int) = over % 20 := by omega
      have hcl := cut_len (ms := R) (i := 3) (by decide) (by omega)
      refine CW.region ?_
      refine r_move rfl ?_
      refine r_call rfl Try.call14 (by simp only [List.map_cons, List.map_nil, List.map_toArray, List.toList_toArray, upd_get, ev, Nat.reduceEqDiff, ↓reduceIte] <;> rfl) (Take_c _ _ (SH.prop H (by repeat first | exact At.here | apply At.there))) ?_
      rintro _ w18_1 ⟨v18_1, g18_1, FN18_1, rfl, K⟩
      refine ⟨_, rfl, ?_⟩
      replace H := SH.updP H (by repeat first | exact At.here | apply At.there) K
      clear K
      try dsimp only [replC, List.cons_append, List.nil_append, List.append_nil, agg, cellsL, Value.cells, List.toList_toArray, List.set_cons_zero, List.set_cons_succ, spliceL, List.take_succ_cons, List.take_zero, List.drop_succ_cons, List.drop_zero, List.length_cons, List.length_nil, Nat.reduceAdd, Row.cells, Flight.L] at H
      have hsm : (R.length : Int) = 600 := by omega
      generalize netCut R 3 = R2 at *
      refine LW.nil ?_
      refine thenE_norm (h21 _ _ ?_); clear h21; try clear K21
      refine CW.seq (fun K22 h22 => ?_)
      refine CW.region ?_
      refine r_move rfl ?_
      refine r_convI rfl Try.underlying46 Try.underlying3 rfl (wr_i64 (by omega) (by omega)) ?_
      refine r_rem rfl rfl rfl (by omega) (by omega) (wr_i64 (by omega) (by omega)) ?_
      refine s_make (0 : UInt8) H rfl Try.underlying22 Try.type5 rfl rfl rfl rfl rfl rfl rfl rfl (by omega) (by show (1 : Int) * (long % 3000) ≤ 281474976710656; omega) (by omega) ?_
      clear H
      intro b19_3 w19_3 H
      try dsimp only [replC, List.cons_append, List.nil_append, List.append_nil, agg, cellsL, Value.cells, List.toList_toArray, List.set_cons_zero, List.set_cons_succ, spliceL, List.take_succ_cons, List.take_zero, List.drop_succ_cons, List.drop_zero, List.length_cons, List.length_nil, Nat.reduceAdd, Row.cells, Flight.L] at H
      refine r_assign rfl ?_
      refine LW.nil ?_
      refine thenE_norm ?_
      refine cut (K := K22) [0, 7, 11] (fun σ => ?_)
      simp only [setL, keepE, upd_get, ev, Nat.reduceEqDiff, ↓reduceIte]
      refine h22 _ _ ?_; clear h22; try clear K22
      refine CW.seq (fun K23 h23 => ?_)
      refine CW.region ?_
      refine r_move rfl ?_
      refine r_move rfl ?_
      refine r_buildQ rfl Try.underlying29 Try.zeroValue29 rfl (pl := [(0, 1), (1, 1), (2, 1), (3, 1)]) (by intro w; simp [go_sem]) (qs := [(3, [_])]) (cs := [.int .i64 0, .int .i64 0, .int .i64 0, _]) ⟨rfl, cells_one (by simp only [upd_get, ev, Nat.reduceEqDiff, ↓reduceIte] <;> rfl) (by first | rfl | exact Rs.oneC (by first | assumption | exact SH.rsR H (by repeat first | exact At.here | apply At.there) | exact SH.rsO H (by repeat first | exact At.here | apply At.there) | exact Rs.toH (by first | assumption | exact SH.rsR H (by repeat first | exact At.here | apply At.there) | exact SH.rsO H (by repeat first | exact At.here | apply At.there)) (by omega) | exact Rs.toL (by first | assumption | exact SH.rsR H (by repeat first | exact At.here | apply At.there) | exact SH.rsO H (by repeat first | exact At.here | apply At.there)) (by omega) | exact Rs.toLH (by first | assumption | exact SH.rsR H (by repeat first | exact At.here | apply At.there) | exact SH.rsO H (by repeat first | exact At.here | apply At.there)) (by omega) (by omega) | exact (Rs.nil : Rs Non _ _ _))), trivial⟩ rfl ?_
      refine r_call rfl Try.call13 (by simp only [List.map_cons, List.map_nil, List.map_toArray, List.toList_toArray, upd_get, ev, Nat.reduceEqDiff, ↓reduceIte] <;> rfl) (Put_c ⟨0, 0, 0, _⟩ _ (SH.prop H (by repeat first | exact At.here | apply At.there)) (by first | assumption | exact SH.rsR H (by repeat first | exact At.here | apply At.there) | exact SH.rsO H (by repeat first | exact At.here | apply At.there) | exact Rs.toH (by first | assumption | exact SH.rsR H (by repeat first | exact At.here | apply At.there) | exact SH.rsO H (by repeat first | exact At.here | apply At.there)) (by omega) | exact Rs.toL (by first | assumption | exact SH.rsR H (by repeat first | exact At.here | apply At.there) | exact SH.rsO H (by repeat first | exact At.here | apply At.there)) (by omega) | exact Rs.toLH (by first | assumption | exact SH.rsR H (by repeat first | exact At.here | apply At.there) | exact SH.rsO H (by repeat first | exact At.here | apply At.there)) (by omega) (by omega) | exact (Rs.nil : Rs Non _ _ _)) (by first | exact SH.apartPO H (by repeat first | exact At.here | apply At.there) (by repeat first | exact At.here | apply At.there) (by decide) | exact SH.apartPR H (by repeat first | exact At.here | apply At.there) (by repeat first | exact At.here | apply At.there) (by decide) | exact fun _ h => h.elim) (by omega) (by omega)) ?_
      rintro _ w20_3 ⟨FN20_3, rfl, K⟩
      refine ⟨_, rfl, ?_⟩
      replace H := SH.updP H (by repeat first | exact At.here | apply At.there) K
      clear K
      try dsimp only [replC, List.cons_append, List.nil_append, List.append_nil, agg, cellsL, Value.cells, List.toList_toArray, List.set_cons_zero, List.set_cons_succ, spliceL, List.take_succ_cons, List.take_zero, List.drop_succ_cons, List.drop_zero, List.length_cons, List.length_nil, Nat.reduceAdd, Row.cells, Flight.L] at H
      have hput : (netPut R2 k ⟨0, 0, 0, List.replicate (long % 3000).toNat 0⟩).2.2 = (if 2048 < (long % 3000).toNat then 3 else 0) ∧ (netPut R2 k ⟨0, 0, 0, List.replicate (long % 3000).toNat 0⟩).2.1 = k := by
        unfold netPut
        simp only [List.length_replicate]
        by_cases hq : 2048 < (long % 3000).toNat
        · simp [hq]
        · rw [if_neg hq, if_neg (by omega), if_neg hq]; exact ⟨rfl, rfl⟩
      generalize netPut R2 k ⟨0, 0, 0, List.replicate (long % 3000).toNat 0⟩ = J at *
      obtain ⟨J1, J2, J3⟩ := J
      dsimp only at H hput ⊢
      obtain ⟨hp1, hp2⟩ := hput
      subst hp2
      refine r_assign rfl ?_
      refine LW.nil ?_
      refine thenE_norm (h23 _ _ ?_); clear h23; try clear K23
      refine CW.seq (fun K24 h24 => ?_)
      refine CW.region ?_
      refine r_assign rfl ?_
      refine LW.nil ?_
      refine thenE_norm (h24 _ _ ?_); clear h24; try clear K24
      refine CW.seq (fun K25 h25 => ?_)
      refine CW.region ?_
      refine r_move rfl ?_
      refine r_call rfl Try.call14 (by simp only [List.map_cons, List.map_nil, List.map_toArray, List.toList_toArray, upd_get, ev, Nat.reduceEqDiff, ↓reduceIte] <;> rfl) (TakeZ_c _ _) ?_
      rintro _ w22_1 ⟨rfl, X⟩
      refine ⟨_, rfl, ?_⟩
      replace H := SH.same H X
      clear X
      refine r_move rfl ?_
      refine r_extract rfl (by simp only [upd_get, ev, Nat.reduceEqDiff, ↓reduceIte] <;> rfl) (by simp only [List.getElem?_toArray, List.getElem?_cons_zero, List.getElem?_cons_succ] <;> rfl) ?_
      refine r_extract rfl (by simp only [upd_get, ev, Nat.reduceEqDiff, ↓reduceIte] <;> rfl) (by simp only [List.getElem?_toArray, List.getElem?_cons_zero, List.getElem?_cons_succ] <;> rfl) ?_
      refine s_alloc (cs := [.int .i64 0, .int .i64 0, .int .i64 0, .slice none 0 0]) H rfl Try.zeroValue29 rfl ?_
      clear H
      intro b22_5 w22_5 H
      try dsimp only [replC, List.cons_append, List.nil_append, List.append_nil, agg, cellsL, Value.cells, List.toList_toArray, List.set_cons_zero, List.set_cons_succ, spliceL, List.take_succ_cons, List.take_zero, List.drop_succ_cons, List.drop_zero, List.length_cons, List.length_nil, Nat.reduceAdd, Row.cells, Flight.L] at H
      refine s_storeA H Try.sizeOf29 rfl (by simp only [upd_get, ev, Nat.reduceEqDiff, ↓reduceIte] <;> rfl) (by simp only [cellsL, agg, List.toList_toArray, Row.cells, Flight.L] <;> rfl) (by rfl) (by first | rfl | exact Rs.oneC (by first | assumption | exact SH.rsR H (by repeat first | exact At.here | apply At.there) | exact SH.rsO H (by repeat first | exact At.here | apply At.there) | exact Rs.toH (by first | assumption | exact SH.rsR H (by repeat first | exact At.here | apply At.there) | exact SH.rsO H (by repeat first | exact At.here | apply At.there)) (by omega) | exact Rs.toL (by first | assumption | exact SH.rsR H (by repeat first | exact At.here | apply At.there) | exact SH.rsO H (by repeat first | exact At.here | apply At.there)) (by omega) | exact Rs.toLH (by first | assumption | exact SH.rsR H (by repeat first | exact At.here | apply At.there) | exact SH.rsO H (by repeat first | exact At.here | apply At.there)) (by omega) (by omega) | exact (Rs.nil : Rs Non _ _ _)) | (simp only [List.all_cons, List.all_nil, Bool.and_true, Bool.and_eq_true, Row.cells, Flight.L]; (repeat' constructor) <;> first | rfl | exact Rs.oneC (by first | assumption | exact SH.rsR H (by repeat first | exact At.here | apply At.there) | exact SH.rsO H (by repeat first | exact At.here | apply At.there) | exact Rs.toH (by first | assumption | exact SH.rsR H (by repeat first | exact At.here | apply At.there) | exact SH.rsO H (by repeat first | exact At.here | apply At.there)) (by omega) | exact Rs.toL (by first | assumption | exact SH.rsR H (by repeat first | exact At.here | apply At.there) | exact SH.rsO H (by repeat first | exact At.here | apply At.there)) (by omega) | exact Rs.toLH (by first | assumption | exact SH.rsR H (by repeat first | exact At.here | apply At.there) | exact SH.rsO H (by repeat first | exact At.here | apply At.there)) (by omega) (by omega) | exact (Rs.nil : Rs Non _ _ _)))) (by repeat first | exact At.here | apply At.there) (by first | (simp; done) | decide | (show _ ≤ _; decide)) ?_
      clear H
      intro w22_6 H
      try dsimp only [replC, List.cons_append, List.nil_append, List.append_nil, agg, cellsL, Value.cells, List.toList_toArray, List.set_cons_zero, List.set_cons_succ, spliceL, List.take_succ_cons, List.take_zero, List.drop_succ_cons, List.drop_zero, List.length_cons, List.length_nil, Nat.reduceAdd, Row.cells, Flight.L] at H
      refine r_assign rfl ?_
      refine LW.nil ?_
      refine thenE_norm ?_
      refine cut (K := K25) [0, 7, 11, 12, 13, 15] (fun σ => ?_)
      simp only [setL, keepE, upd_get, ev, Nat.reduceEqDiff, ↓reduceIte]
      refine h25 _ _ ?_; clear h25; try clear K25
      refine CW.seq (fun K26 h26 => ?_)
      refine CW.region ?_
      refine r_move rfl ?_
      refine r_call rfl Try.call16 (by simp only [List.map_cons, List.map_nil, List.map_toArray, List.toList_toArray, upd_get, ev, Nat.reduceEqDiff, ↓reduceIte] <;> rfl) (LookZ_c _ _) ?_
      rintro _ w23_1 ⟨rfl, X⟩
      refine ⟨_, rfl, ?_⟩
      replace H := SH.same H X
      clear X
      refine r_move rfl ?_
      refine r_extract rfl (by simp only [upd_get, ev, Nat.reduceEqDiff, ↓reduceIte] <;> rfl) (by simp only [List.getElem?_toArray, List.getElem?_cons_zero, List.getElem?_cons_succ] <;> rfl) ?_
      refine r_extract rfl (by simp only [upd_get, ev, Nat.reduceEqDiff, ↓reduceIte] <;> rfl) (by simp only [List.getElem?_toArray, List.getElem?_cons_zero, List.getElem?_cons_succ] <;> rfl) ?_
      refine s_alloc (cs := [.int .i64 0, .int .i64 0, .int .i64 0, .slice none 0 0]) H rfl Try.zeroValue29 rfl ?_
      clear H
      intro b23_5 w23_5 H
      try dsimp only [replC, List.cons_append, List.nil_append, List.append_nil, agg, cellsL, Value.cells, List.toList_toArray, List.set_cons_zero, List.set_cons_succ, spliceL, List.take_succ_cons, List.take_zero, List.drop_succ_cons, List.drop_zero, List.length_cons, List.length_nil, Nat.reduceAdd, Row.cells, Flight.L] at H
      refine s_storeA H Try.sizeOf29 rfl (by simp only [upd_get, ev, Nat.reduceEqDiff, ↓reduceIte] <;> rfl) (by simp only [cellsL, agg, List.toList_toArray, Row.cells, Flight.L] <;> rfl) (by rfl) (by first | rfl | exact Rs.oneC (by first | assumption | exact SH.rsR H (by repeat first | exact At.here | apply At.there) | exact SH.rsO H (by repeat first | exact At.here | apply At.there) | exact Rs.toH (by first | assumption | exact SH.rsR H (by repeat first | exact At.here | apply At.there) | exact SH.rsO H (by repeat first | exact At.here | apply At.there)) (by omega) | exact Rs.toL (by first | assumption | exact SH.rsR H (by repeat first | exact At.here | apply At.there) | exact SH.rsO H (by repeat first | exact At.here | apply At.there)) (by omega) | exact Rs.toLH (by first | assumption | exact SH.rsR H (by repeat first | exact At.here | apply At.there) | exact SH.rsO H (by repeat first | exact At.here | apply At.there)) (by omega) (by omega) | exact (Rs.nil : Rs Non _ _ _)) | (simp only [List.all_cons, List.all_nil, Bool.and_true, Bool.and_eq_true, Row.cells, Flight.L]; (repeat' constructor) <;> first | rfl | exact Rs.oneC (by first | assumption | exact SH.rsR H (by repeat first | exact At.here | apply At.there) | exact SH.rsO H (by repeat first | exact At.here | apply At.there) | exact Rs.toH (by first | assumption | exact SH.rsR H (by repeat first | exact At.here | apply At.there) | exact SH.rsO H (by repeat first | exact At.here | apply At.there)) (by omega) | exact Rs.toL (by first | assumption | exact SH.rsR H (by repeat first | exact At.here | apply At.there) | exact SH.rsO H (by repeat first | exact At.here | apply At.there)) (by omega) | exact Rs.toLH (by first | assumption | exact SH.rsR H (by repeat first | exact At.here | apply At.there) | exact SH.rsO H (by repeat first | exact At.here | apply At.there)) (by omega) (by omega) | exact (Rs.nil : Rs Non _ _ _)))) (by repeat first | exact At.here | apply At.there) (by first | (simp; done) | decide | (show _ ≤ _; decide)) ?_
      clear H
      intro w23_6 H
      try dsimp only [replC, List.cons_append, List.nil_append, List.append_nil, agg, cellsL, Value.cells, List.toList_toArray, List.set_cons_zero, List.set_cons_succ, spliceL, List.take_succ_cons, List.take_zero, List.drop_succ_cons, List.drop_zero, List.length_cons, List.length_nil, Nat.reduceAdd, Row.cells, Flight.L] at H
      refine r_assign rfl ?_
      refine LW.nil ?_
      refine thenE_norm ?_
      refine cut (K := K26) [0, 7, 11, 12, 13, 15, 17] (fun σ => ?_)
      simp only [setL, keepE, upd_get, ev, Nat.reduceEqDiff, ↓reduceIte]
      refine h26 _ _ ?_; clear h26; try clear K26
      refine CW.seq (fun K27 h27 => ?_)
      refine CW.region ?_
      refine r_move rfl ?_
      refine r_eql rfl rfl rfl ?_
      refine r_move rfl ?_
      first
        | refine r_lenV rfl Try.underlying22 (by simp only [upd_get, ev, Nat.reduceEqDiff, ↓reduceIte] <;> rfl) (by first | assumption | exact SH.rsR H (by repeat first | exact At.here | apply At.there) | exact SH.rsO H (by repeat first | exact At.here | apply At.there) | exact Rs.toH (by first | assumption | exact SH.rsR H (by repeat first | exact At.here | apply At.there) | exact SH.rsO H (by repeat first | exact At.here | apply At.there)) (by omega) | exact Rs.toL (by first | assumption | exact SH.rsR H (by repeat first | exact At.here | apply At.there) | exact SH.rsO H (by repeat first | exact At.here | apply At.there)) (by omega) | exact Rs.toLH (by first | assumption | exact SH.rsR H (by repeat first | exact At.here | apply At.there) | exact SH.rsO H (by repeat first | exact At.here | apply At.there)) (by omega) (by omega) | exact (Rs.nil : Rs Non _ _ _)) ?_
        | refine r_len rfl Try.underlying22 rfl ?_
      refine r_leq rfl rfl rfl ?_
      refine r_eqlB rfl Try.underlying4 rfl rfl ?_
      refine r_move rfl ?_
      refine' LW.grpAnd (n := 7) (ts := [0, 7, 13, 15, 17, 92, 100, 106, 111, 115, 119, 127]) (d := 91) (tj := 84) rfl (fun hg24_7 => ?_) (fun hg24_7 => ?_) (fun σ => ?_)
      rotate_left
      · simp only [List.take_succ_cons, List.take_zero]
        have hg24_7P := hg24_7
        try simp only [decide_eq_true_eq, decide_eq_false_iff_not, Bool.and_eq_true, Bool.or_eq_true, Bool.and_eq_false_iff, Bool.or_eq_false_iff, Bool.not_eq_true', Bool.not_eq_false', beq_iff_eq, bne_iff_ne] at hg24_7P
        refine LW.want rfl rfl hg24_7 ?_
        refine r_move rfl ?_
        refine LW.want rfl rfl hg24_7 ?_
        refine r_eql rfl rfl rfl ?_
        refine LW.want rfl rfl hg24_7 ?_
        refine r_move rfl ?_
        refine' LW.grpOr (n := 3) (ts := [0, 7, 13, 15, 17, 84, 92, 100, 106, 111, 115, 119, 127]) (d := 90) (tj := 87) rfl (fun hg24_10 => ?_) (fun hg24_10 => ?_) (fun σ => ?_)
        rotate_left
        · simp only [List.take_succ_cons, List.take_zero]
          have hg24_10P := hg24_10
          try simp only [decide_eq_true_eq, decide_eq_false_iff_not, Bool.and_eq_true, Bool.or_eq_true, Bool.and_eq_false_iff, Bool.or_eq_false_iff, Bool.not_eq_true', Bool.not_eq_false', beq_iff_eq, bne_iff_ne] at hg24_10P
          refine LW.want rfl rfl hg24_10 ?_
          refine r_move rfl ?_
          refine LW.want rfl rfl hg24_10 ?_
          refine r_eql rfl rfl rfl ?_
          refine LW.want rfl rfl hg24_7 ?_
          refine r_pickF rfl rfl hg24_10 ?_
          refine LW.nil (thenE_norm ⟨rfl, rfl, rfl⟩)
        · simp only [List.take_succ_cons, List.take_zero]
          refine LW.skip rfl (fun _ e => by cases e; decide) rfl hg24_10 ?_
          refine LW.skip rfl (fun _ e => by cases e; decide) rfl hg24_10 ?_
          refine LW.want rfl rfl hg24_7 ?_
          refine r_pickT rfl rfl hg24_10 ?_
          refine LW.nil (thenE_norm ⟨rfl, rfl, rfl⟩)
        simp only [setL, keepE, upd_get, ev, Nat.reduceEqDiff, ↓reduceIte]; simp only [List.drop_succ_cons, List.drop_zero]
        refine r_pickT rfl rfl hg24_7 ?_
        refine LW.nil (thenE_norm ⟨rfl, rfl, rfl⟩)
      · simp only [List.take_succ_cons, List.take_zero]
        refine LW.skip rfl (fun _ e => by cases e; decide) rfl hg24_7 ?_
        refine LW.skip rfl (fun _ e => by cases e; decide) rfl hg24_7 ?_
        refine LW.skip rfl (fun _ e => by cases e; decide) rfl hg24_7 ?_
        refine LW.skipU rfl (fun _ e => by cases e; decide) rfl ?_
        refine LW.skipU rfl (fun _ e => by cases e; decide) rfl ?_
        refine LW.skip rfl (fun _ e => by cases e; decide) rfl hg24_7 ?_
        refine r_pickF rfl rfl hg24_7 ?_
        refine LW.nil (thenE_norm ⟨rfl, rfl, rfl⟩)
      simp only [setL, keepE, upd_get, ev, Nat.reduceEqDiff, ↓reduceIte]; simp only [List.drop_succ_cons, List.drop_zero]
      refine r_move rfl ?_
      refine' LW.grpAnd (n := 7) (ts := [13, 15, 17, 100, 106, 111, 115, 119, 127]) (d := 99) (tj := 92) rfl (fun hg24_15 => ?_) (fun hg24_15 => ?_) (fun σ => ?_)
      rotate_left
      · simp only [List.take_succ_cons, List.take_zero]
        have hg24_15P := hg24_15
        try simp only [decide_eq_true_eq, decide_eq_false_iff_not, Bool.and_eq_true, Bool.or_eq_true, Bool.and_eq_false_iff, Bool.or_eq_false_iff, Bool.not_eq_true', Bool.not_eq_false', beq_iff_eq, bne_iff_ne] at hg24_15P
        refine LW.want rfl rfl hg24_15 ?_
        refine r_move rfl ?_
        refine LW.want rfl rfl hg24_15 ?_
        refine r_call rfl Try.call23 (by simp only [List.map_cons, List.map_nil, List.map_toArray, List.toList_toArray, upd_get, ev, Nat.reduceEqDiff, ↓reduceIte] <;> rfl) (Lost_c _ (SH.prop H (by repeat first | exact At.here | apply At.there))) ?_
        rintro _ _ ⟨rfl, rfl⟩
        refine ⟨_, rfl, ?_⟩
        refine LW.want rfl rfl hg24_15 ?_
        refine r_move rfl ?_
        refine LW.want rfl rfl hg24_15 ?_
        refine r_convI rfl Try.underlying5 Try.underlying3 rfl (wr_i64 (by omega) (by omega)) ?_
        refine LW.want rfl rfl hg24_15 ?_
        refine r_rem rfl rfl rfl (by omega) (by omega) (wr_i64 (by omega) (by omega)) ?_
        refine LW.want rfl rfl hg24_15 ?_
        refine r_eql rfl rfl rfl ?_
        refine r_pickT rfl rfl hg24_15 ?_
        refine LW.nil (thenE_norm ⟨rfl, rfl, rfl⟩)
      · simp only [List.take_succ_cons, List.take_zero]
        refine LW.skip rfl (fun _ e => by cases e; decide) rfl hg24_15 ?_
        refine LW.skip rfl (fun _ e => by cases e; decide) rfl hg24_15 ?_
        refine LW.skip rfl (fun _ e => by cases e; decide) rfl hg24_15 ?_
        refine LW.skip rfl (fun _ e => by cases e; decide) rfl hg24_15 ?_
        refine LW.skip rfl (fun _ e => by cases e; decide) rfl hg24_15 ?_
        refine LW.skip rfl (fun _ e => by cases e; decide) rfl hg24_15 ?_
        refine r_pickF rfl rfl hg24_15 ?_
        refine LW.nil (thenE_norm ⟨rfl, rfl, rfl⟩)
      simp only [setL, keepE, upd_get, ev, Nat.reduceEqDiff, ↓reduceIte]; simp only [List.drop_succ_cons, List.drop_zero]
      refine r_move rfl ?_
      refine LW.known (t := 100) (c := true) rfl (by
  rw [List.length_replicate, hp1, hkk]
  by_cases hq : 2048 < (long % 3000).toNat
  · simp [hq]; omega
  · simp [hq]; omega) (fun hg24_23 => ?_)
      refine LW.want rfl rfl hg24_23 ?_
      refine r_move rfl ?_
      refine LW.want rfl rfl hg24_23 ?_
      refine r_buildQ rfl Try.underlying29 Try.zeroValue29 rfl (pl := [(0, 1), (1, 1), (2, 1), (3, 1)]) (by intro w; simp [go_sem]) (qs := []) (cs := [.int .i64 0, .int .i64 0, .int .i64 0, .slice none 0 0]) trivial rfl ?_
      refine LW.want rfl rfl hg24_23 ?_
      refine r_call rfl Try.call13 (by simp only [List.map_cons, List.map_nil, List.map_toArray, List.toList_toArray, upd_get, ev, Nat.reduceEqDiff, ↓reduceIte] <;> rfl) (PutZ_c ⟨0, 0, 0, _⟩ _) ?_
      rintro _ w24_25 ⟨rfl, X⟩
      refine ⟨_, rfl, ?_⟩
      replace H := SH.same H X
      clear X
      refine LW.want rfl rfl hg24_23 ?_
      refine r_eql rfl rfl rfl ?_
      refine r_pickT rfl rfl hg24_23 ?_
      refine r_move rfl ?_
      refine LW.known (t := 106) (c := true) rfl (by first | rfl | (simp only [decide_eq_true_eq, decide_eq_false_iff_not, Bool.and_eq_true, Bool.or_eq_true, Bool.and_eq_false_iff, Bool.or_eq_false_iff, Bool.not_eq_true', Bool.not_eq_false', beq_iff_eq, bne_iff_ne]; omega) | simp_all) (fun hg24_29 => ?_)
      refine LW.want rfl rfl hg24_29 ?_
      refine r_move rfl ?_
      refine LW.want rfl rfl hg24_29 ?_
      refine r_call rfl Try.call19 (by simp only [List.map_cons, List.map_nil, List.map_toArray, List.toList_toArray, upd_get, ev, Nat.reduceEqDiff, ↓reduceIte] <;> rfl) (TwiceZ_c _ _) ?_
      rintro _ w24_30 ⟨rfl, X⟩
      refine ⟨_, rfl, ?_⟩
      replace H := SH.same H X
      clear X
      refine LW.want rfl rfl hg24_29 ?_
      refine r_eql rfl rfl rfl ?_
      refine r_pickT rfl rfl hg24_29 ?_
      refine r_move rfl ?_
      refine LW.known (t := 111) (c := true) rfl (by first | rfl | (simp only [decide_eq_true_eq, decide_eq_false_iff_not, Bool.and_eq_true, Bool.or_eq_true, Bool.and_eq_false_iff, Bool.or_eq_false_iff, Bool.not_eq_true', Bool.not_eq_false', beq_iff_eq, bne_iff_ne]; omega) | simp_all) (fun hg24_34 => ?_)
      refine LW.want rfl rfl hg24_34 ?_
      refine r_move rfl ?_
      refine LW.want rfl rfl hg24_34 ?_
      refine r_not rfl rfl ?_
      refine r_pickT rfl rfl hg24_34 ?_
      refine r_move rfl ?_
      refine LW.known (t := 115) (c := true) rfl (by first | rfl | (simp only [decide_eq_true_eq, decide_eq_false_iff_not, Bool.and_eq_true, Bool.or_eq_true, Bool.and_eq_false_iff, Bool.or_eq_false_iff, Bool.not_eq_true', Bool.not_eq_false', beq_iff_eq, bne_iff_ne]; omega) | simp_all) (fun hg24_38 => ?_)
      refine LW.want rfl rfl hg24_38 ?_
      refine r_move rfl ?_
      refine LW.want rfl rfl hg24_38 ?_
      refine r_not rfl rfl ?_
      refine r_pickT rfl rfl hg24_38 ?_
      refine r_move rfl ?_
      refine LW.known (t := 119) (c := true) rfl (by first | rfl | (simp only [decide_eq_true_eq, decide_eq_false_iff_not, Bool.and_eq_true, Bool.or_eq_true, Bool.and_eq_false_iff, Bool.or_eq_false_iff, Bool.not_eq_true', Bool.not_eq_false', beq_iff_eq, bne_iff_ne]; omega) | simp_all) (fun hg24_42 => ?_)
      refine LW.want rfl rfl hg24_42 ?_
      refine r_move rfl ?_
      refine LW.want rfl rfl hg24_42 ?_
      refine r_call rfl Try.call17 (by simp only [List.map_cons, List.map_nil, List.map_toArray, List.toList_toArray, upd_get, ev, Nat.reduceEqDiff, ↓reduceIte] <;> rfl) (LenZ_c _) ?_
      rintro _ _ ⟨rfl, rfl⟩
      refine ⟨_, rfl, ?_⟩
      refine LW.want rfl rfl hg24_42 ?_
      refine r_move rfl ?_
      refine LW.want rfl rfl hg24_42 ?_
      refine r_call rfl Try.call23 (by simp only [List.map_cons, List.map_nil, List.map_toArray, List.toList_toArray, upd_get, ev, Nat.reduceEqDiff, ↓reduceIte] <;> rfl) (LostZ_c _) ?_
      rintro _ _ ⟨rfl, rfl⟩
      refine ⟨_, rfl, ?_⟩
      refine LW.want rfl rfl hg24_42 ?_
      refine r_add rfl rfl rfl (wr_i64 (by omega) (by omega)) ?_
      refine LW.want rfl rfl hg24_42 ?_
      refine r_eql rfl rfl rfl ?_
      refine r_pickT rfl rfl hg24_42 ?_
      refine r_move rfl ?_
      refine LW.known (t := 127) (c := true) rfl (by first | rfl | (simp only [decide_eq_true_eq, decide_eq_false_iff_not, Bool.and_eq_true, Bool.or_eq_true, Bool.and_eq_false_iff, Bool.or_eq_false_iff, Bool.not_eq_true', Bool.not_eq_false', beq_iff_eq, bne_iff_ne]; omega) | simp_all) (fun hg24_50 => ?_)
      refine LW.want rfl rfl hg24_50 ?_
      refine r_call rfl Try.call18 (by simp only [List.map_cons, List.map_nil, List.map_toArray, List.toList_toArray, upd_get, ev, Nat.reduceEqDiff, ↓reduceIte] <;> rfl) (awake26_c _) ?_
      rintro _ w24_50 ⟨rfl, X⟩
      refine ⟨_, rfl, ?_⟩
      replace H := SH.same H X
      clear X
      refine r_pickT rfl rfl hg24_50 ?_
      refine r_assign rfl ?_
      refine LW.nil ?_
      refine thenE_norm ?_
      refine cut (K := K27) [6] (fun σ => ?_)
      simp only [setL, keepE, upd_get, ev, Nat.reduceEqDiff, ↓reduceIte]
      refine h27 _ _ ?_; clear h27; try clear K27
      refine CW.ret (ret1 Try.results6 (by simp only [upd_get, ev, Nat.reduceEqDiff, ↓reduceIte]; rfl) ?_)
      exact ⟨rfl, H.ext⟩
end Go.Proofs.Ytcmnhneigojpoaa