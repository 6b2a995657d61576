/-
  The walks of layer 7's laws.
-/
import Derived.Test.YtaggdlbjgjagbaaVLnD
namespace Go.Proofs.Ytaggdlbjgjagbaa
set_option linter.unusedSimpArgs false
set_option linter.unusedVariables false
open Go.V Go.RowKit

theorem awake7_c (w : World) : Calls Try.prog 14 #[] w fun e w' => e = .returned (.bool true) ∧ Ext0 w w' := by
  have H := SH.start (U := Non) (G := Any) w
  have hj : joinM [4] 2 = ([4, 2], 1, 0) := by decide
  refine calls_of_CW Try.func14 rfl Try.ntmps14 (Nat.le_of_ble_eq_true rfl) ?_
  simp only [argE, argFrom, Nat.reduceAdd]
  refine CW.seq (fun K1 h1 => ?_)
  refine CW.region ?_
  refine r_assign rfl ?_
  refine LW.nil ?_
  refine thenE_norm (h1 _ _ ?_); clear h1; try clear K1
  refine CW.seq (fun K2 h2 => ?_)
  refine CW.region ?_
  refine r_buildSlice rfl Try.underlying22 Try.sizeOf3 Try.zeroValue3 rfl rfl rfl (by simp only [List.map_cons, List.map_nil, List.toList_toArray, List.foldl_cons, List.foldl_nil, List.replicate_succ, List.replicate_zero, List.set_cons_zero, List.set_cons_succ, upd_get, ev, Nat.reduceEqDiff, ↓reduceIte] <;> rfl) ?_
  intro b1_0 w1_0 hb1_0 hs1_0 hE1_0 hB1_0
  replace H := SH.call H (SH.fromB hE1_0 hb1_0 hs1_0 hB1_0)
  clear hb1_0 hs1_0 hE1_0 hB1_0
  try dsimp only [replC, List.cons_append, List.nil_append, List.append_nil, Value.cells, List.set_cons_zero, List.set_cons_succ] at H
  replace H := SH.row (xs := ([_] : List Int)) (n := 1) (cap := 1) H (by repeat first | exact At.here | apply At.there) (by rfl) (by intro x hx; first | rfl | (simp at hx; done) | (simp only [List.mem_cons, List.not_mem_nil, or_false] at hx; rcases hx with rfl | rfl | rfl | rfl <;> rfl)) (by rfl) rfl (by decide)
  try dsimp only [replC, List.cons_append, List.nil_append, List.append_nil, Value.cells, List.set_cons_zero, List.set_cons_succ] at H
  refine r_call rfl Try.call17 (by simp only [List.map_cons, List.map_nil, List.map_toArray, List.toList_toArray, upd_get, ev, Nat.reduceEqDiff, ↓reduceIte] <;> rfl) (Join_c _ _ (by first | assumption | exact SH.rsR H (by repeat first | exact At.here | apply At.there) | exact SH.rsO H (by repeat first | exact At.here | apply At.there) | exact Rs.toH (by first | assumption | exact SH.rsR H (by repeat first | exact At.here | apply At.there) | exact SH.rsO H (by repeat first | exact At.here | apply At.there)) (by omega) | exact Rs.toL (by first | assumption | exact SH.rsR H (by repeat first | exact At.here | apply At.there) | exact SH.rsO H (by repeat first | exact At.here | apply At.there)) (by omega) | exact Rs.toLH (by first | assumption | exact SH.rsR H (by repeat first | exact At.here | apply At.there) | exact SH.rsO H (by repeat first | exact At.here | apply At.there)) (by omega) (by omega))) ?_
  rintro _ w1_1 ⟨v1_1, g1_1, rfl, K⟩
  refine ⟨_, rfl, ?_⟩
  replace H := SH.call H K
  clear K
  try dsimp only [replC, List.cons_append, List.nil_append, List.append_nil, Value.cells, List.set_cons_zero, List.set_cons_succ] at H
  simp only [hj] at H ⊢
  refine r_move rfl ?_
  refine r_extract rfl (by simp only [upd_get, ev, Nat.reduceEqDiff, ↓reduceIte] <;> rfl) (by simp only [List.getElem?_toArray, List.getElem?_cons_zero, List.getElem?_cons_succ] <;> rfl) ?_
  refine r_extract rfl (by simp only [upd_get, ev, Nat.reduceEqDiff, ↓reduceIte] <;> rfl) (by simp only [List.getElem?_toArray, List.getElem?_cons_zero, List.getElem?_cons_succ] <;> rfl) ?_
  refine r_extract rfl (by simp only [upd_get, ev, Nat.reduceEqDiff, ↓reduceIte] <;> rfl) (by simp only [List.getElem?_toArray, List.getElem?_cons_zero, List.getElem?_cons_succ] <;> rfl) ?_
  refine r_assign rfl ?_
  refine r_assign rfl ?_
  refine r_assign rfl ?_
  refine LW.nil ?_
  refine thenE_norm ?_
  refine cut (K := K2) [1, 2, 3] (fun σ => ?_)
  simp only [setL, keepE, upd_get, ev, Nat.reduceEqDiff, ↓reduceIte]
  refine h2 _ _ ?_; clear h2; try clear K2
  refine CW.seq (fun K3 h3 => ?_)
  refine CW.region ?_
  refine r_move rfl ?_
  refine r_buildSlice rfl Try.underlying22 Try.sizeOf3 Try.zeroValue3 rfl rfl rfl (by simp only [List.map_cons, List.map_nil, List.toList_toArray, List.foldl_cons, List.foldl_nil, List.replicate_succ, List.replicate_zero, List.set_cons_zero, List.set_cons_succ, upd_get, ev, Nat.reduceEqDiff, ↓reduceIte] <;> rfl) ?_
  intro b2_1 w2_1 hb2_1 hs2_1 hE2_1 hB2_1
  replace H := SH.call H (SH.fromB hE2_1 hb2_1 hs2_1 hB2_1)
  clear hb2_1 hs2_1 hE2_1 hB2_1
  try dsimp only [replC, List.cons_append, List.nil_append, List.append_nil, Value.cells, List.set_cons_zero, List.set_cons_succ] at H
  replace H := SH.row (xs := ([_, _] : List Int)) (n := 2) (cap := 2) H (by repeat first | exact At.here | apply At.there) (by rfl) (by intro x hx; first | rfl | (simp at hx; done) | (simp only [List.mem_cons, List.not_mem_nil, or_false] at hx; rcases hx with rfl | rfl | rfl | rfl <;> rfl)) (by rfl) rfl (by decide)
  try dsimp only [replC, List.cons_append, List.nil_append, List.append_nil, Value.cells, List.set_cons_zero, List.set_cons_succ] at H
  refine r_call rfl Try.call24 (by simp only [List.map_cons, List.map_nil, List.map_toArray, List.toList_toArray, upd_get, ev, Nat.reduceEqDiff, ↓reduceIte] <;> rfl) (SameInts_c _ (by first | assumption | exact SH.rsR H (by repeat first | exact At.here | apply At.there) | exact SH.rsO H (by repeat first | exact At.here | apply At.there) | exact Rs.toH (by first | assumption | exact SH.rsR H (by repeat first | exact At.here | apply At.there) | exact SH.rsO H (by repeat first | exact At.here | apply At.there)) (by omega) | exact Rs.toL (by first | assumption | exact SH.rsR H (by repeat first | exact At.here | apply At.there) | exact SH.rsO H (by repeat first | exact At.here | apply At.there)) (by omega) | exact Rs.toLH (by first | assumption | exact SH.rsR H (by repeat first | exact At.here | apply At.there) | exact SH.rsO H (by repeat first | exact At.here | apply At.there)) (by omega) (by omega)) (by first | assumption | exact SH.rsR H (by repeat first | exact At.here | apply At.there) | exact SH.rsO H (by repeat first | exact At.here | apply At.there) | exact Rs.toH (by first | assumption | exact SH.rsR H (by repeat first | exact At.here | apply At.there) | exact SH.rsO H (by repeat first | exact At.here | apply At.there)) (by omega) | exact Rs.toL (by first | assumption | exact SH.rsR H (by repeat first | exact At.here | apply At.there) | exact SH.rsO H (by repeat first | exact At.here | apply At.there)) (by omega) | exact Rs.toLH (by first | assumption | exact SH.rsR H (by repeat first | exact At.here | apply At.there) | exact SH.rsO H (by repeat first | exact At.here | apply At.there)) (by omega) (by omega))) ?_
  rintro _ w2_2 ⟨rfl, X⟩
  refine ⟨_, rfl, ?_⟩
  replace H := SH.same H X
  clear X
  refine r_move rfl ?_
  refine LW.known (t := 13) (c := true) rfl (by first | rfl | (simp only [decide_eq_true_eq, decide_eq_false_iff_not, Bool.and_eq_true, Bool.or_eq_true, Bool.and_eq_false_iff, Bool.or_eq_false_iff, Bool.not_eq_true', Bool.not_eq_false', beq_iff_eq, bne_iff_ne]; omega) | simp_all) (fun hg2_4 => ?_)
  refine LW.want rfl rfl hg2_4 ?_
  refine r_move rfl ?_
  refine LW.want rfl rfl hg2_4 ?_
  refine r_eql rfl rfl rfl ?_
  refine r_pickT rfl rfl hg2_4 ?_
  refine r_move rfl ?_
  refine LW.known (t := 17) (c := true) rfl (by first | rfl | (simp only [decide_eq_true_eq, decide_eq_false_iff_not, Bool.and_eq_true, Bool.or_eq_true, Bool.and_eq_false_iff, Bool.or_eq_false_iff, Bool.not_eq_true', Bool.not_eq_false', beq_iff_eq, bne_iff_ne]; omega) | simp_all) (fun hg2_8 => ?_)
  refine LW.want rfl rfl hg2_8 ?_
  refine r_move rfl ?_
  refine LW.want rfl rfl hg2_8 ?_
  refine r_eql rfl rfl rfl ?_
  refine r_pickT rfl rfl hg2_8 ?_
  refine r_move rfl ?_
  refine LW.known (t := 21) (c := true) rfl (by first | rfl | (simp only [decide_eq_true_eq, decide_eq_false_iff_not, Bool.and_eq_true, Bool.or_eq_true, Bool.and_eq_false_iff, Bool.or_eq_false_iff, Bool.not_eq_true', Bool.not_eq_false', beq_iff_eq, bne_iff_ne]; omega) | simp_all) (fun hg2_12 => ?_)
  refine LW.want rfl rfl hg2_12 ?_
  refine r_move rfl ?_
  refine LW.want rfl rfl hg2_12 ?_
  refine r_call rfl Try.call15 (by simp only [List.map_cons, List.map_nil, List.map_toArray, List.toList_toArray, upd_get, ev, Nat.reduceEqDiff, ↓reduceIte] <;> rfl) (Right_c _ (by first | assumption | exact SH.rsR H (by repeat first | exact At.here | apply At.there) | exact SH.rsO H (by repeat first | exact At.here | apply At.there) | exact Rs.toH (by first | assumption | exact SH.rsR H (by repeat first | exact At.here | apply At.there) | exact SH.rsO H (by repeat first | exact At.here | apply At.there)) (by omega) | exact Rs.toL (by first | assumption | exact SH.rsR H (by repeat first | exact At.here | apply At.there) | exact SH.rsO H (by repeat first | exact At.here | apply At.there)) (by omega) | exact Rs.toLH (by first | assumption | exact SH.rsR H (by repeat first | exact At.here | apply At.there) | exact SH.rsO H (by repeat first | exact At.here | apply At.there)) (by omega) (by omega))) ?_
  rintro _ _ ⟨rfl, rfl⟩
  refine ⟨_, rfl, ?_⟩
  refine r_pickT rfl rfl hg2_12 ?_
  refine r_move rfl ?_
  refine LW.known (t := 25) (c := true) rfl (by decide) (fun hg2_16 => ?_)
  refine LW.want rfl rfl hg2_16 ?_
  refine r_move rfl ?_
  refine LW.want rfl rfl hg2_16 ?_
  refine r_buildSlice rfl Try.underlying22 Try.sizeOf3 Try.zeroValue3 rfl rfl rfl (by simp only [List.map_cons, List.map_nil, List.toList_toArray, List.foldl_cons, List.foldl_nil, List.replicate_succ, List.replicate_zero, List.set_cons_zero, List.set_cons_succ, upd_get, ev, Nat.reduceEqDiff, ↓reduceIte] <;> rfl) ?_
  intro b2_17 w2_17 hb2_17 hs2_17 hE2_17 hB2_17
  replace H := SH.call H (SH.fromB hE2_17 hb2_17 hs2_17 hB2_17)
  clear hb2_17 hs2_17 hE2_17 hB2_17
  try dsimp only [replC, List.cons_append, List.nil_append, List.append_nil, Value.cells, List.set_cons_zero, List.set_cons_succ] at H
  replace H := SH.row (xs := ([_] : List Int)) (n := 1) (cap := 1) H (by repeat first | exact At.here | apply At.there) (by rfl) (by intro x hx; first | rfl | (simp at hx; done) | (simp only [List.mem_cons, List.not_mem_nil, or_false] at hx; rcases hx with rfl | rfl | rfl | rfl <;> rfl)) (by rfl) rfl (by decide)
  try dsimp only [replC, List.cons_append, List.nil_append, List.append_nil, Value.cells, List.set_cons_zero, List.set_cons_succ] at H
  refine LW.want rfl rfl hg2_16 ?_
  refine r_call rfl Try.call23 (by simp only [List.map_cons, List.map_nil, List.map_toArray, List.toList_toArray, upd_get, ev, Nat.reduceEqDiff, ↓reduceIte] <;> rfl) (Without_c _ (by first | assumption | exact SH.rsR H (by repeat first | exact At.here | apply At.there) | exact SH.rsO H (by repeat first | exact At.here | apply At.there) | exact Rs.toH (by first | assumption | exact SH.rsR H (by repeat first | exact At.here | apply At.there) | exact SH.rsO H (by repeat first | exact At.here | apply At.there)) (by omega) | exact Rs.toL (by first | assumption | exact SH.rsR H (by repeat first | exact At.here | apply At.there) | exact SH.rsO H (by repeat first | exact At.here | apply At.there)) (by omega) | exact Rs.toLH (by first | assumption | exact SH.rsR H (by repeat first | exact At.here | apply At.there) | exact SH.rsO H (by repeat first | exact At.here | apply At.there)) (by omega) (by omega)) (by first | assumption | exact SH.rsR H (by repeat first | exact At.here | apply At.there) | exact SH.rsO H (by repeat first | exact At.here | apply At.there) | exact Rs.toH (by first | assumption | exact SH.rsR H (by repeat first | exact At.here | apply At.there) | exact SH.rsO H (by repeat first | exact At.here | apply At.there)) (by omega) | exact Rs.toL (by first | assumption | exact SH.rsR H (by repeat first | exact At.here | apply At.there) | exact SH.rsO H (by repeat first | exact At.here | apply At.there)) (by omega) | exact Rs.toLH (by first | assumption | exact SH.rsR H (by repeat first | exact At.here | apply At.there) | exact SH.rsO H (by repeat first | exact At.here | apply At.there)) (by omega) (by omega)) (by first | omega | (simp only [List.length_append, List.length_cons, List.length_nil]; omega) | (simp; omega))) ?_
  rintro _ w2_18 ⟨v2_18, g2_18, rfl, K⟩
  refine ⟨_, rfl, ?_⟩
  replace H := SH.call H K
  clear K
  try dsimp only [replC, List.cons_append, List.nil_append, List.append_nil, Value.cells, List.set_cons_zero, List.set_cons_succ] at H
  refine LW.want rfl rfl hg2_16 ?_
  refine r_buildSlice rfl Try.underlying22 Try.sizeOf3 Try.zeroValue3 rfl rfl rfl (by simp only [List.map_cons, List.map_nil, List.toList_toArray, List.foldl_cons, List.foldl_nil, List.replicate_succ, List.replicate_zero, List.set_cons_zero, List.set_cons_succ, upd_get, ev, Nat.reduceEqDiff, ↓reduceIte] <;> rfl) ?_
  intro b2_19 w2_19 hb2_19 hs2_19 hE2_19 hB2_19
  replace H := SH.call H (SH.fromB hE2_19 hb2_19 hs2_19 hB2_19)
  clear hb2_19 hs2_19 hE2_19 hB2_19
  try dsimp only [replC, List.cons_append, List.nil_append, List.append_nil, Value.cells, List.set_cons_zero, List.set_cons_succ] at H
  replace H := SH.row (xs := ([_] : List Int)) (n := 1) (cap := 1) H (by repeat first | exact At.here | apply At.there) (by rfl) (by intro x hx; first | rfl | (simp at hx; done) | (simp only [List.mem_cons, List.not_mem_nil, or_false] at hx; rcases hx with rfl | rfl | rfl | rfl <;> rfl)) (by rfl) rfl (by decide)
  try dsimp only [replC, List.cons_append, List.nil_append, List.append_nil, Value.cells, List.set_cons_zero, List.set_cons_succ] at H
  refine LW.want rfl rfl hg2_16 ?_
  refine r_call rfl Try.call24 (by simp only [List.map_cons, List.map_nil, List.map_toArray, List.toList_toArray, upd_get, ev, Nat.reduceEqDiff, ↓reduceIte] <;> rfl) (SameInts_c _ (by first | assumption | exact SH.rsR H (by repeat first | exact At.here | apply At.there) | exact SH.rsO H (by repeat first | exact At.here | apply At.there) | exact Rs.toH (by first | assumption | exact SH.rsR H (by repeat first | exact At.here | apply At.there) | exact SH.rsO H (by repeat first | exact At.here | apply At.there)) (by omega) | exact Rs.toL (by first | assumption | exact SH.rsR H (by repeat first | exact At.here | apply At.there) | exact SH.rsO H (by repeat first | exact At.here | apply At.there)) (by omega) | exact Rs.toLH (by first | assumption | exact SH.rsR H (by repeat first | exact At.here | apply At.there) | exact SH.rsO H (by repeat first | exact At.here | apply At.there)) (by omega) (by omega)) (by first | assumption | exact SH.rsR H (by repeat first | exact At.here | apply At.there) | exact SH.rsO H (by repeat first | exact At.here | apply At.there) | exact Rs.toH (by first | assumption | exact SH.rsR H (by repeat first | exact At.here | apply At.there) | exact SH.rsO H (by repeat first | exact At.here | apply At.there)) (by omega) | exact Rs.toL (by first | assumption | exact SH.rsR H (by repeat first | exact At.here | apply At.there) | exact SH.rsO H (by repeat first | exact At.here | apply At.there)) (by omega) | exact Rs.toLH (by first | assumption | exact SH.rsR H (by repeat first | exact At.here | apply At.there) | exact SH.rsO H (by repeat first | exact At.here | apply At.there)) (by omega) (by omega))) ?_
  rintro _ w2_20 ⟨rfl, X⟩
  refine ⟨_, rfl, ?_⟩
  replace H := SH.same H X
  clear X
  refine r_pickT rfl rfl hg2_16 ?_
  refine r_assign rfl ?_
  refine LW.nil ?_
  refine thenE_norm ?_
  refine cut (K := K3) [0] (fun σ => ?_)
  simp only [setL, keepE, upd_get, ev, Nat.reduceEqDiff, ↓reduceIte]
  refine h3 _ _ ?_; clear h3; try clear K3
  refine CW.ret (ret1 Try.results14 (by simp only [upd_get, ev, Nat.reduceEqDiff, ↓reduceIte]; rfl) ?_)
  exact ⟨rfl, H.ext⟩

theorem LineRights_c {F : Nat → Prop} {v : Value} {xs : List Int} (w : World) (hv : Rs F w v xs) :
    Calls Try.prog 3 #[v] w fun e w' => e = .returned (.bool true) ∧ Ext0 w w' := by
  have H := (SH.start w).arg hv
  refine calls_of_CW Try.func3 rfl Try.ntmps3 (Nat.le_of_ble_eq_true rfl) ?_
  simp only [argE, argFrom, Nat.reduceAdd]
  refine CW.seq (fun K1 h1 => ?_)
  refine CW.region ?_
  refine r_assign rfl ?_
  refine LW.nil ?_
  refine thenE_norm (h1 _ _ ?_); clear h1; try clear K1
  refine CW.seq (fun K2 h2 => ?_)
  refine CW.seq (fun K3 h3 => ?_)
  refine CW.region ?_
  refine r_move rfl ?_
  first
    | refine r_lenV rfl Try.underlying22 (by simp only [upd_get, ev, Nat.reduceEqDiff, ↓reduceIte] <;> rfl) (by first | assumption | exact SH.rsR H (by repeat first | exact At.here | apply At.there) | exact SH.rsO H (by repeat first | exact At.here | apply At.there) | exact Rs.toH (by first | assumption | exact SH.rsR H (by repeat first | exact At.here | apply At.there) | exact SH.rsO H (by repeat first | exact At.here | apply At.there)) (by omega) | exact Rs.toL (by first | assumption | exact SH.rsR H (by repeat first | exact At.here | apply At.there) | exact SH.rsO H (by repeat first | exact At.here | apply At.there)) (by omega) | exact Rs.toLH (by first | assumption | exact SH.rsR H (by repeat first | exact At.here | apply At.there) | exact SH.rsO H (by repeat first | exact At.here | apply At.there)) (by omega) (by omega)) ?_
    | refine r_len rfl Try.underlying22 rfl ?_
  refine r_gtr rfl rfl rfl ?_
  refine LW.nil ?_
  refine thenE_norm (h3 _ _ ?_); clear h3; try clear K3
  refine CW.cond rfl (fun hc1 => ?_) (fun hc1 => ?_)
  · try simp only [decide_eq_true_eq, decide_eq_false_iff_not, Bool.and_eq_true, Bool.or_eq_true, Bool.and_eq_false_iff, Bool.or_eq_false_iff, Bool.not_eq_true', Bool.not_eq_false', beq_iff_eq, bne_iff_ne, ne_eq, Decidable.not_not] at hc1
    refine CW.seq (fun K4 h4 => ?_)
    refine CW.region ?_
    refine r_call rfl Try.call14 (by simp only [List.map_cons, List.map_nil, List.map_toArray, List.toList_toArray, upd_get, ev, Nat.reduceEqDiff, ↓reduceIte] <;> rfl) (awake7_c _) ?_
    rintro _ w2_0 ⟨rfl, X⟩
    refine ⟨_, rfl, ?_⟩
    replace H := SH.same H X
    clear X
    refine r_assign rfl ?_
    refine LW.nil ?_
    refine thenE_norm (h4 _ _ ?_); clear h4; try clear K4
    refine CW.ret (thenE_ret (ret1 Try.results3 (by simp only [upd_get, ev, Nat.reduceEqDiff, ↓reduceIte]; rfl) ?_))
    exact ⟨rfl, H.ext⟩
  · try simp only [decide_eq_true_eq, decide_eq_false_iff_not, Bool.and_eq_true, Bool.or_eq_true, Bool.and_eq_false_iff, Bool.or_eq_false_iff, Bool.not_eq_true', Bool.not_eq_false', beq_iff_eq, bne_iff_ne, ne_eq, Decidable.not_not] at hc1
    refine CW.skip ?_
    refine thenE_norm (h2 _ _ ?_); clear h2; try clear K2
    refine CW.seq (fun K5 h5 => ?_)
    refine CW.region ?_
    refine r_move rfl ?_
    refine r_call rfl Try.call15 (by simp only [List.map_cons, List.map_nil, List.map_toArray, List.toList_toArray, upd_get, ev, Nat.reduceEqDiff, ↓reduceIte] <;> rfl) (Right_c _ (by first | assumption | exact SH.rsR H (by repeat first | exact At.here | apply At.there) | exact SH.rsO H (by repeat first | exact At.here | apply At.there) | exact Rs.toH (by first | assumption | exact SH.rsR H (by repeat first | exact At.here | apply At.there) | exact SH.rsO H (by repeat first | exact At.here | apply At.there)) (by omega) | exact Rs.toL (by first | assumption | exact SH.rsR H (by repeat first | exact At.here | apply At.there) | exact SH.rsO H (by repeat first | exact At.here | apply At.there)) (by omega) | exact Rs.toLH (by first | assumption | exact SH.rsR H (by repeat first | exact At.here | apply At.there) | exact SH.rsO H (by repeat first | exact At.here | apply At.there)) (by omega) (by omega))) ?_
    rintro _ _ ⟨rfl, rfl⟩
    refine ⟨_, rfl, ?_⟩
    refine r_move rfl ?_
    refine r_call rfl Try.call16 (by simp only [List.map_cons, List.map_nil, List.map_toArray, List.toList_toArray, upd_get, ev, Nat.reduceEqDiff, ↓reduceIte] <;> rfl) (RightR_c _ (by first | assumption | exact SH.rsR H (by repeat first | exact At.here | apply At.there) | exact SH.rsO H (by repeat first | exact At.here | apply At.there) | exact Rs.toH (by first | assumption | exact SH.rsR H (by repeat first | exact At.here | apply At.there) | exact SH.rsO H (by repeat first | exact At.here | apply At.there)) (by omega) | exact Rs.toL (by first | assumption | exact SH.rsR H (by repeat first | exact At.here | apply At.there) | exact SH.rsO H (by repeat first | exact At.here | apply At.there)) (by omega) | exact Rs.toLH (by first | assumption | exact SH.rsR H (by repeat first | exact At.here | apply At.there) | exact SH.rsO H (by repeat first | exact At.here | apply At.there)) (by omega) (by omega))) ?_
    rintro _ w3_3 ⟨rfl, X⟩
    refine ⟨_, rfl, ?_⟩
    replace H := SH.same H X
    clear X
    refine r_eqlB rfl Try.underlying4 rfl rfl ?_
    refine r_move rfl ?_
    refine LW.known (t := 12) (c := true) rfl (by simp) (fun hg3_6 => ?_)
    refine LW.want rfl rfl hg3_6 ?_
    refine r_call rfl Try.call14 (by simp only [List.map_cons, List.map_nil, List.map_toArray, List.toList_toArray, upd_get, ev, Nat.reduceEqDiff, ↓reduceIte] <;> rfl) (awake7_c _) ?_
    rintro _ w3_6 ⟨rfl, X⟩
    refine ⟨_, rfl, ?_⟩
    replace H := SH.same H X
    clear X
    refine r_pickT rfl rfl hg3_6 ?_
    refine r_assign rfl ?_
    refine LW.nil ?_
    refine thenE_norm ?_
    refine cut (K := K5) [2] (fun σ => ?_)
    simp only [setL, keepE, upd_get, ev, Nat.reduceEqDiff, ↓reduceIte]
    refine h5 _ _ ?_; clear h5; try clear K5
    refine CW.ret (ret1 Try.results3 (by simp only [upd_get, ev, Nat.reduceEqDiff, ↓reduceIte]; rfl) ?_)
    exact ⟨rfl, H.ext⟩

/-- The clients from one on. -/
def from8 (f : Int) (n : Nat) : List Int := (List.range n).map fun (j : Nat) => (f + (j : Int)) % 8
theorem from8_succ (f : Int) (n : Nat) : from8 f (n + 1) = from8 f n ++ [(f + (n : Int)) % 8] := by simp [from8, List.range_succ]
theorem from8_len (f : Int) (n : Nat) : (from8 f n).length = n := by simp [from8]
theorem from8_mem (f : Int) (n i : Nat) (hf : 0 ≤ f) (hn : n ≤ i) (hi : i < 8) : (f + (i : Int)) % 8 ∉ from8 f n := by
  simp only [from8, List.mem_map, List.mem_range, not_exists, not_and]
  intro j hj h; omega
theorem from8_get (f : Int) (n i : Nat) (hi : i < n) : (from8 f n)[i]? = some ((f + (i : Int)) % 8) := by simp [from8, hi]
theorem from8_idx (f : Int) (n i : Nat) (hf : 0 ≤ f) (hi : i < n) (hn : n ≤ 8) : aheadM (from8 f n) ((f + (i : Int)) % 8) = ((i : Int), true) := by
  have h := from8_get f n i hi
  have h0 : (f + (i : Int)) % 8 ∉ (from8 f n).take i := by
    have : (from8 f n).take i = from8 f i := by
      simp only [from8, ← List.map_take, List.take_range, Nat.min_eq_left (by omega : i ≤ n)]
    rw [this]; exact from8_mem f i i hf (Nat.le_refl _) (by omega)
  have := idx_at h h0
  rw [aheadM, if_pos this.1, this.2]
theorem clientM_mod (n : Int) : clientM (n % 8) = true := by simp [clientM]; omega
theorem full_step (f : Int) (i : Nat) (hf : 0 ≤ f) (hi : i < 8) : joinM (from8 f (min i 3)) ((f + (i : Int)) % 8) = if i < 3 then (from8 f (i + 1), (i : Int), 0) else ([], 0, 5) := by
  rw [joinM, if_neg (by rw [clientM_mod]; simp), if_neg (from8_mem f _ i hf (by omega) hi), from8_len]
  by_cases h : i < 3
  · rw [if_neg (by omega), if_pos h, show min i 3 = i from by omega, from8_succ]
  · rw [if_pos (by omega), if_neg h]

theorem join_nil (n : Int) : joinM [] n = if clientM n = true then ([n], 0, 0) else ([], 0, 1) := by
  rw [joinM]; cases clientM n <;> simp
theorem LineFull_c (f no : Int) (w : World) (hf : 0 ≤ f) (hf2 : f < 256) :
    Calls Try.prog 4 #[.int .u8 f, .int .i64 no] w fun e w' => e = .returned (.bool true) ∧ Ext0 w w' := by
  have H := SH.start (U := Non) (G := Any) w
  refine calls_of_CW Try.func4 rfl Try.ntmps4 (Nat.le_of_ble_eq_true rfl) ?_
  simp only [argE, argFrom, Nat.reduceAdd]
  refine CW.seq (fun K1 h1 => ?_)
  refine CW.region ?_
  refine r_assign rfl ?_
  refine LW.nil ?_
  refine thenE_norm (h1 _ _ ?_); clear h1; try clear K1
  refine CW.seq (fun K2 h2 => ?_)
  refine CW.region ?_
  refine r_assign rfl ?_
  refine LW.nil ?_
  refine thenE_norm (h2 _ _ ?_); clear h2; try clear K2
  refine CW.seq (fun K3 h3 => ?_)
  refine CW.seq (fun K4 h4 => ?_)
  refine CW.region ?_
  refine r_assign rfl ?_
  refine LW.nil ?_
  refine thenE_norm (h4 _ _ ?_); clear h4; try clear K4
  refine CW.block ?_
  refine CW.loopR [0, 1] [5, 6] (fun m vs w' => ∃ (i : Nat) (u : Value) (g : Option Nat), vs = [u, .int .i64 i] ∧ i ≤ 8 ∧ m = 8 - i ∧ SH Non Any w w' [.O 3 u (from8 f (min i 3)) g]) (8) ?_ ?_
  · exact ⟨0, .slice none 0 0, none, rfl, by omega, by omega, H.addO (α := Int) 3⟩
  try clear H
  rintro n1 vs1 wL1 σ ⟨i, u, g, rfl, hi, rfl, H⟩
  simp only [setL, keepE, upd_get, ev, Nat.reduceEqDiff, ↓reduceIte]
  refine CW.seq (fun K5 h5 => ?_)
  refine CW.seq (fun K6 h6 => ?_)
  refine CW.region ?_
  refine r_move rfl ?_
  refine r_lss rfl rfl rfl ?_
  refine LW.nil ?_
  refine thenE_norm (h6 _ _ ?_); clear h6; try clear K6
  refine CW.cond rfl (fun hc1 => ?_) (fun hc1 => ?_)
  · try simp only [decide_eq_true_eq, decide_eq_false_iff_not, Bool.and_eq_true, Bool.or_eq_true, Bool.and_eq_false_iff, Bool.or_eq_false_iff, Bool.not_eq_true', Bool.not_eq_false', beq_iff_eq, bne_iff_ne, ne_eq, Decidable.not_not] at hc1
    refine CW.skip ?_
    refine thenE_norm (h5 _ _ ?_); clear h5; try clear K5
    refine CW.seq (fun K7 h7 => ?_)
    refine CW.block ?_
    refine CW.seq (fun K8 h8 => ?_)
    refine CW.region ?_
    refine r_move rfl ?_
    refine r_convI rfl Try.underlying5 Try.underlying3 rfl (wr_i64 (by omega) (by omega)) ?_
    refine r_move rfl ?_
    refine r_add rfl rfl rfl (wr_i64 (by omega) (by omega)) ?_
    refine r_rem rfl rfl rfl (by omega) (by omega) (wr_i64 (by omega) (by omega)) ?_
    refine r_assign rfl ?_
    refine LW.nil ?_
    refine thenE_norm ?_
    refine cut (K := K8) [0, 1, 5, 6, 7] (fun σ => ?_)
    simp only [setL, keepE, upd_get, ev, Nat.reduceEqDiff, ↓reduceIte]
    refine h8 _ _ ?_; clear h8; try clear K8
    refine CW.seq (fun K9 h9 => ?_)
    refine CW.region ?_
    refine r_move rfl ?_
    refine r_move rfl ?_
    refine r_call rfl Try.call17 (by simp only [List.map_cons, List.map_nil, List.map_toArray, List.toList_toArray, upd_get, ev, Nat.reduceEqDiff, ↓reduceIte] <;> rfl) (Join_c _ _ (by exact SH.rsO H At.here)) ?_
    rintro _ w6_2 ⟨v6_2, g6_2, rfl, K⟩
    refine ⟨_, rfl, ?_⟩
    replace H := SH.call H K
    clear K
    try dsimp only [replC, List.cons_append, List.nil_append, List.append_nil, Value.cells, List.set_cons_zero, List.set_cons_succ] at H
    rw [full_step f i hf (by omega)] at H ⊢
    refine r_move rfl ?_
    refine r_extract rfl (by simp only [upd_get, ev, Nat.reduceEqDiff, ↓reduceIte] <;> rfl) (by simp only [List.getElem?_toArray, List.getElem?_cons_zero, List.getElem?_cons_succ] <;> rfl) ?_
    refine r_extract rfl (by simp only [upd_get, ev, Nat.reduceEqDiff, ↓reduceIte] <;> rfl) (by simp only [List.getElem?_toArray, List.getElem?_cons_zero, List.getElem?_cons_succ] <;> rfl) ?_
    refine r_extract rfl (by simp only [upd_get, ev, Nat.reduceEqDiff, ↓reduceIte] <;> rfl) (by simp only [List.getElem?_toArray, List.getElem?_cons_zero, List.getElem?_cons_succ] <;> rfl) ?_
    refine r_assign rfl ?_
    refine r_assign rfl ?_
    refine r_assign rfl ?_
    refine LW.nil ?_
    refine thenE_norm ?_
    refine cut (K := K9) [0, 1, 5, 6, 8, 9, 10] (fun σ => ?_)
    simp only [setL, keepE, upd_get, ev, Nat.reduceEqDiff, ↓reduceIte]
    refine h9 _ _ ?_; clear h9; try clear K9
    refine CW.seq (fun K10 h10 => ?_)
    refine CW.seq (fun K11 h11 => ?_)
    refine CW.region ?_
    refine r_move rfl ?_
    refine r_lss rfl rfl rfl ?_
    refine r_move rfl ?_
    refine' LW.grpAnd (n := 8) (ts := [0, 1, 5, 6, 8, 10, 44, 47, 50]) (d := 43) (tj := 35) rfl (fun hg7_3 => ?_) (fun hg7_3 => ?_) (fun σ => ?_)
    rotate_left
    · simp only [List.take_succ_cons, List.take_zero]
      have hg7_3P := hg7_3
      try simp only [decide_eq_true_eq, decide_eq_false_iff_not, Bool.and_eq_true, Bool.or_eq_true, Bool.and_eq_false_iff, Bool.or_eq_false_iff, Bool.not_eq_true', Bool.not_eq_false', beq_iff_eq, bne_iff_ne] at hg7_3P
      refine LW.want rfl rfl hg7_3 ?_
      refine r_move rfl ?_
      refine LW.want rfl rfl hg7_3 ?_
      refine r_neq rfl rfl rfl ?_
      refine LW.want rfl rfl hg7_3 ?_
      refine r_move rfl ?_
      refine' LW.grpOr (n := 4) (ts := [0, 1, 5, 6, 8, 10, 35, 44, 47, 50]) (d := 42) (tj := 38) rfl (fun hg7_6 => ?_) (fun hg7_6 => ?_) (fun σ => ?_)
      rotate_left
      · simp only [List.take_succ_cons, List.take_zero]
        have hg7_6P := hg7_6
        try simp only [decide_eq_true_eq, decide_eq_false_iff_not, Bool.and_eq_true, Bool.or_eq_true, Bool.and_eq_false_iff, Bool.or_eq_false_iff, Bool.not_eq_true', Bool.not_eq_false', beq_iff_eq, bne_iff_ne] at hg7_6P
        refine LW.want rfl rfl hg7_6 ?_
        refine r_move rfl ?_
        refine LW.want rfl rfl hg7_6 ?_
        refine r_move rfl ?_
        refine LW.want rfl rfl hg7_6 ?_
        refine r_neq rfl rfl rfl ?_
        refine LW.want rfl rfl hg7_3 ?_
        refine r_pickF rfl rfl hg7_6 ?_
        refine LW.nil (thenE_norm ⟨rfl, rfl, rfl⟩)
      · simp only [List.take_succ_cons, List.take_zero]
        refine LW.skip rfl (fun _ e => by cases e; decide) rfl hg7_6 ?_
        refine LW.skip rfl (fun _ e => by cases e; decide) rfl hg7_6 ?_
        refine LW.skip rfl (fun _ e => by cases e; decide) rfl hg7_6 ?_
        refine LW.want rfl rfl hg7_3 ?_
        refine r_pickT rfl rfl hg7_6 ?_
        refine LW.nil (thenE_norm ⟨rfl, rfl, rfl⟩)
      simp only [setL, keepE, upd_get, ev, Nat.reduceEqDiff, ↓reduceIte]; simp only [List.drop_succ_cons, List.drop_zero]
      refine r_pickT rfl rfl hg7_3 ?_
      refine LW.nil (thenE_norm ⟨rfl, rfl, rfl⟩)
    · simp only [List.take_succ_cons, List.take_zero]
      refine LW.skip rfl (fun _ e => by cases e; decide) rfl hg7_3 ?_
      refine LW.skip rfl (fun _ e => by cases e; decide) rfl hg7_3 ?_
      refine LW.skip rfl (fun _ e => by cases e; decide) rfl hg7_3 ?_
      refine LW.skipU rfl (fun _ e => by cases e; decide) rfl ?_
      refine LW.skipU rfl (fun _ e => by cases e; decide) rfl ?_
      refine LW.skipU rfl (fun _ e => by cases e; decide) rfl ?_
      refine LW.skip rfl (fun _ e => by cases e; decide) rfl hg7_3 ?_
      refine r_pickF rfl rfl hg7_3 ?_
      refine LW.nil (thenE_norm ⟨rfl, rfl, rfl⟩)
    simp only [setL, keepE, upd_get, ev, Nat.reduceEqDiff, ↓reduceIte]; simp only [List.drop_succ_cons, List.drop_zero]
    refine r_move rfl ?_
    refine' LW.grpOr (n := 12) (ts := [0, 1, 5, 6, 8, 10]) (d := 56) (tj := 44) rfl (fun hg7_12 => ?_) (fun hg7_12 => ?_) (fun σ => ?_)
    rotate_left
    · simp only [List.take_succ_cons, List.take_zero]
      have hg7_12P := hg7_12
      try simp only [decide_eq_true_eq, decide_eq_false_iff_not, Bool.and_eq_true, Bool.or_eq_true, Bool.and_eq_false_iff, Bool.or_eq_false_iff, Bool.not_eq_true', Bool.not_eq_false', beq_iff_eq, bne_iff_ne] at hg7_12P
      refine LW.want rfl rfl hg7_12 ?_
      refine r_move rfl ?_
      refine LW.want rfl rfl hg7_12 ?_
      refine r_geq rfl rfl rfl ?_
      refine LW.want rfl rfl hg7_12 ?_
      refine r_move rfl ?_
      refine' LW.grpAnd (n := 8) (ts := [0, 1, 5, 6, 8, 10, 44]) (d := 55) (tj := 47) rfl (fun hg7_15 => ?_) (fun hg7_15 => ?_) (fun σ => ?_)
      rotate_left
      · simp only [List.take_succ_cons, List.take_zero]
        have hg7_15P := hg7_15
        try simp only [decide_eq_true_eq, decide_eq_false_iff_not, Bool.and_eq_true, Bool.or_eq_true, Bool.and_eq_false_iff, Bool.or_eq_false_iff, Bool.not_eq_true', Bool.not_eq_false', beq_iff_eq, bne_iff_ne] at hg7_15P
        refine LW.want rfl rfl hg7_15 ?_
        refine r_move rfl ?_
        refine LW.want rfl rfl hg7_15 ?_
        refine r_neq rfl rfl rfl ?_
        refine LW.want rfl rfl hg7_15 ?_
        refine r_move rfl ?_
        refine' LW.grpOr (n := 4) (ts := [0, 1, 5, 6, 8, 10, 44, 47]) (d := 54) (tj := 50) rfl (fun hg7_18 => ?_) (fun hg7_18 => ?_) (fun σ => ?_)
        rotate_left
        · simp only [List.take_succ_cons, List.take_zero]
          have hg7_18P := hg7_18
          try simp only [decide_eq_true_eq, decide_eq_false_iff_not, Bool.and_eq_true, Bool.or_eq_true, Bool.and_eq_false_iff, Bool.or_eq_false_iff, Bool.not_eq_true', Bool.not_eq_false', beq_iff_eq, bne_iff_ne] at hg7_18P
          refine LW.want rfl rfl hg7_18 ?_
          refine r_move rfl ?_
          refine LW.want rfl rfl hg7_18 ?_
          first
            | refine r_lenV rfl Try.underlying22 (by simp only [upd_get, ev, Nat.reduceEqDiff, ↓reduceIte] <;> rfl) (by first | assumption | exact SH.rsR H (by repeat first | exact At.here | apply At.there) | exact SH.rsO H (by repeat first | exact At.here | apply At.there) | exact Rs.toH (by first | assumption | exact SH.rsR H (by repeat first | exact At.here | apply At.there) | exact SH.rsO H (by repeat first | exact At.here | apply At.there)) (by omega) | exact Rs.toL (by first | assumption | exact SH.rsR H (by repeat first | exact At.here | apply At.there) | exact SH.rsO H (by repeat first | exact At.here | apply At.there)) (by omega) | exact Rs.toLH (by first | assumption | exact SH.rsR H (by repeat first | exact At.here | apply At.there) | exact SH.rsO H (by repeat first | exact At.here | apply At.there)) (by omega) (by omega)) ?_
            | refine r_len rfl Try.underlying22 rfl ?_
          refine LW.want rfl rfl hg7_18 ?_
          refine r_neq rfl rfl rfl ?_
          refine LW.want rfl rfl hg7_15 ?_
          refine r_pickF rfl rfl hg7_18 ?_
          refine LW.nil (thenE_norm ⟨rfl, rfl, rfl⟩)
        · simp only [List.take_succ_cons, List.take_zero]
          refine LW.skip rfl (fun _ e => by cases e; decide) rfl hg7_18 ?_
          refine LW.skip rfl (fun _ e => by cases e; decide) rfl hg7_18 ?_
          refine LW.skip rfl (fun _ e => by cases e; decide) rfl hg7_18 ?_
          refine LW.want rfl rfl hg7_15 ?_
          refine r_pickT rfl rfl hg7_18 ?_
          refine LW.nil (thenE_norm ⟨rfl, rfl, rfl⟩)
        simp only [setL, keepE, upd_get, ev, Nat.reduceEqDiff, ↓reduceIte]; simp only [List.drop_succ_cons, List.drop_zero]
        refine LW.want rfl rfl hg7_12 ?_
        refine r_pickT rfl rfl hg7_15 ?_
        refine LW.nil (thenE_norm ⟨rfl, rfl, rfl⟩)
      · simp only [List.take_succ_cons, List.take_zero]
        refine LW.skip rfl (fun _ e => by cases e; decide) rfl hg7_15 ?_
        refine LW.skip rfl (fun _ e => by cases e; decide) rfl hg7_15 ?_
        refine LW.skip rfl (fun _ e => by cases e; decide) rfl hg7_15 ?_
        refine LW.skipU rfl (fun _ e => by cases e; decide) rfl ?_
        refine LW.skipU rfl (fun _ e => by cases e; decide) rfl ?_
        refine LW.skipU rfl (fun _ e => by cases e; decide) rfl ?_
        refine LW.skip rfl (fun _ e => by cases e; decide) rfl hg7_15 ?_
        refine LW.want rfl rfl hg7_12 ?_
        refine r_pickF rfl rfl hg7_15 ?_
        refine LW.nil (thenE_norm ⟨rfl, rfl, rfl⟩)
      simp only [setL, keepE, upd_get, ev, Nat.reduceEqDiff, ↓reduceIte]; simp only [List.drop_succ_cons, List.drop_zero]
      refine r_pickF rfl rfl hg7_12 ?_
      refine LW.nil (thenE_norm ⟨rfl, rfl, rfl⟩)
    · simp only [List.take_succ_cons, List.take_zero]
      refine LW.skip rfl (fun _ e => by cases e; decide) rfl hg7_12 ?_
      refine LW.skip rfl (fun _ e => by cases e; decide) rfl hg7_12 ?_
      refine LW.skip rfl (fun _ e => by cases e; decide) rfl hg7_12 ?_
      refine LW.skipU rfl (fun _ e => by cases e; decide) rfl ?_
      refine LW.skipU rfl (fun _ e => by cases e; decide) rfl ?_
      refine LW.skipU rfl (fun _ e => by cases e; decide) rfl ?_
      refine LW.skipU rfl (fun _ e => by cases e; decide) rfl ?_
      refine LW.skipU rfl (fun _ e => by cases e; decide) rfl ?_
      refine LW.skipU rfl (fun _ e => by cases e; decide) rfl ?_
      refine LW.skipU rfl (fun _ e => by cases e; decide) rfl ?_
      refine LW.skip rfl (fun _ e => by cases e; decide) rfl hg7_12 ?_
      refine r_pickT rfl rfl hg7_12 ?_
      refine LW.nil (thenE_norm ⟨rfl, rfl, rfl⟩)
    simp only [setL, keepE, upd_get, ev, Nat.reduceEqDiff, ↓reduceIte]; simp only [List.drop_succ_cons, List.drop_zero]
    refine LW.nil ?_
    refine thenE_norm (h11 _ _ ?_); clear h11; try clear K11
    refine CW.condF rfl (by by_cases h3 : i < 3 <;> simp [h3] <;> omega) ?_
    refine CW.skip ?_
    refine thenE_norm (h10 _ _ ?_); clear h10; try clear K10
    refine CW.seq (fun K12 h12 => ?_)
    refine CW.region ?_
    refine r_move rfl ?_
    refine r_eql rfl rfl rfl ?_
    refine LW.nil ?_
    refine thenE_norm (h12 _ _ ?_); clear h12; try clear K12
    refine CW.cond rfl (fun hc3 => ?_) (fun hc3 => ?_)
    · try simp only [decide_eq_true_eq, decide_eq_false_iff_not, Bool.and_eq_true, Bool.or_eq_true, Bool.and_eq_false_iff, Bool.or_eq_false_iff, Bool.not_eq_true', Bool.not_eq_false', beq_iff_eq, bne_iff_ne, ne_eq, Decidable.not_not] at hc3
      have h3 : i < 3 := by
        by_cases h3 : i < 3
        · exact h3
        · rw [if_neg h3] at hc3; simp at hc3
      rw [if_pos h3] at H
      refine CW.region ?_
      refine r_move rfl ?_
      refine r_assign rfl ?_
      refine LW.nil ?_
      refine blockE_norm ?_
      refine thenE_norm (h7 _ _ ?_); clear h7; try clear K7
      refine CW.region ?_
      refine r_move rfl ?_
      refine r_add rfl rfl rfl (wr_i64 (by omega) (by omega)) ?_
      refine r_assign rfl ?_
      refine LW.nil ?_
      refine thenE_norm ⟨rfl, ?_⟩
      first
        | exact ⟨_, by omega, i + 1, _, _, rfl, by omega, rfl, by rw [show min (i + 1) 3 = i + 1 from by omega]; exact SH.pick1 H (i := 1) rfl⟩
        | exact ⟨_, by omega, i + 1, _, _, rfl, by omega, rfl, by rw [show min (i + 1) 3 = min i 3 from by omega]; exact SH.pick1 H (i := 0) rfl⟩
    · try simp only [decide_eq_true_eq, decide_eq_false_iff_not, Bool.and_eq_true, Bool.or_eq_true, Bool.and_eq_false_iff, Bool.or_eq_false_iff, Bool.not_eq_true', Bool.not_eq_false', beq_iff_eq, bne_iff_ne, ne_eq, Decidable.not_not] at hc3
      have h3 : ¬ i < 3 := fun h3 => by rw [if_pos h3] at hc3; simp at hc3
      rw [if_neg h3] at H
      refine CW.skip ?_
      refine blockE_norm ?_
      refine thenE_norm (h7 _ _ ?_); clear h7; try clear K7
      refine CW.region ?_
      refine r_move rfl ?_
      refine r_add rfl rfl rfl (wr_i64 (by omega) (by omega)) ?_
      refine r_assign rfl ?_
      refine LW.nil ?_
      refine thenE_norm ⟨rfl, ?_⟩
      first
        | exact ⟨_, by omega, i + 1, _, _, rfl, by omega, rfl, by rw [show min (i + 1) 3 = i + 1 from by omega]; exact SH.pick1 H (i := 1) rfl⟩
        | exact ⟨_, by omega, i + 1, _, _, rfl, by omega, rfl, by rw [show min (i + 1) 3 = min i 3 from by omega]; exact SH.pick1 H (i := 0) rfl⟩
  · try simp only [decide_eq_true_eq, decide_eq_false_iff_not, Bool.and_eq_true, Bool.or_eq_true, Bool.and_eq_false_iff, Bool.or_eq_false_iff, Bool.not_eq_true', Bool.not_eq_false', beq_iff_eq, bne_iff_ne, ne_eq, Decidable.not_not] at hc1
    refine CW.exit (thenE_exit (thenE_exit (blockE_hit ?_)))
    refine thenE_norm (h3 _ _ ?_); clear h3; try clear K3
    refine CW.seq (fun K13 h13 => ?_)
    refine CW.seq (fun K14 h14 => ?_)
    refine CW.region ?_
    refine r_assign rfl ?_
    refine LW.nil ?_
    refine thenE_norm (h14 _ _ ?_); clear h14; try clear K14
    refine CW.block ?_
    obtain rfl : i = 8 := by omega
    simp only [show min 8 3 = 3 from rfl] at H
    have hl3 := from8_len f 3
    refine CW.loopR [0, 1, 5] [11] (fun m vs w' => ∃ i : Nat, vs = [.int .i64 i] ∧ i ≤ 3 ∧ m = 3 - i ∧ SH Non Any w w' [.O 3 u (from8 f 3) g]) (3) ?_ ?_
    · exact ⟨0, rfl, by omega, by omega, H⟩
    try clear H
    rintro n2 vs2 wL2 σ ⟨i, rfl, hi, rfl, H⟩
    simp only [setL, keepE, upd_get, ev, Nat.reduceEqDiff, ↓reduceIte]
    refine CW.seq (fun K15 h15 => ?_)
    refine CW.seq (fun K16 h16 => ?_)
    refine CW.region ?_
    refine r_move rfl ?_
    refine r_move rfl ?_
    first
      | refine r_lenV rfl Try.underlying22 (by simp only [upd_get, ev, Nat.reduceEqDiff, ↓reduceIte] <;> rfl) (by first | assumption | exact SH.rsR H (by repeat first | exact At.here | apply At.there) | exact SH.rsO H (by repeat first | exact At.here | apply At.there) | exact Rs.toH (by first | assumption | exact SH.rsR H (by repeat first | exact At.here | apply At.there) | exact SH.rsO H (by repeat first | exact At.here | apply At.there)) (by omega) | exact Rs.toL (by first | assumption | exact SH.rsR H (by repeat first | exact At.here | apply At.there) | exact SH.rsO H (by repeat first | exact At.here | apply At.there)) (by omega) | exact Rs.toLH (by first | assumption | exact SH.rsR H (by repeat first | exact At.here | apply At.there) | exact SH.rsO H (by repeat first | exact At.here | apply At.there)) (by omega) (by omega)) ?_
      | refine r_len rfl Try.underlying22 rfl ?_
    refine r_lss rfl rfl rfl ?_
    refine LW.nil ?_
    refine thenE_norm (h16 _ _ ?_); clear h16; try clear K16
    refine CW.cond rfl (fun hc4 => ?_) (fun hc4 => ?_)
    · try simp only [decide_eq_true_eq, decide_eq_false_iff_not, Bool.and_eq_true, Bool.or_eq_true, Bool.and_eq_false_iff, Bool.or_eq_false_iff, Bool.not_eq_true', Bool.not_eq_false', beq_iff_eq, bne_iff_ne, ne_eq, Decidable.not_not] at hc4
      refine CW.skip ?_
      refine thenE_norm (h15 _ _ ?_); clear h15; try clear K15
      refine CW.seq (fun K17 h17 => ?_)
      refine CW.block ?_
      refine CW.seq (fun K18 h18 => ?_)
      refine CW.region ?_
      refine r_move rfl ?_
      refine r_move rfl ?_
      refine r_convI rfl Try.underlying5 Try.underlying3 rfl (wr_i64 (by omega) (by omega)) ?_
      refine r_move rfl ?_
      refine r_add rfl rfl rfl (wr_i64 (by omega) (by omega)) ?_
      refine r_rem rfl rfl rfl (by omega) (by omega) (wr_i64 (by omega) (by omega)) ?_
      refine r_call rfl Try.call18 (by simp only [List.map_cons, List.map_nil, List.map_toArray, List.toList_toArray, upd_get, ev, Nat.reduceEqDiff, ↓reduceIte] <;> rfl) (Ahead_c _ _ (by first | assumption | exact SH.rsR H (by repeat first | exact At.here | apply At.there) | exact SH.rsO H (by repeat first | exact At.here | apply At.there) | exact Rs.toH (by first | assumption | exact SH.rsR H (by repeat first | exact At.here | apply At.there) | exact SH.rsO H (by repeat first | exact At.here | apply At.there)) (by omega) | exact Rs.toL (by first | assumption | exact SH.rsR H (by repeat first | exact At.here | apply At.there) | exact SH.rsO H (by repeat first | exact At.here | apply At.there)) (by omega) | exact Rs.toLH (by first | assumption | exact SH.rsR H (by repeat first | exact At.here | apply At.there) | exact SH.rsO H (by repeat first | exact At.here | apply At.there)) (by omega) (by omega))) ?_
      rintro _ _ ⟨rfl, rfl⟩
      refine ⟨_, rfl, ?_⟩
      rw [from8_idx f 3 i hf (by omega) (by omega)]
      refine r_move rfl ?_
      refine r_extract rfl (by simp only [upd_get, ev, Nat.reduceEqDiff, ↓reduceIte] <;> rfl) (by simp only [List.getElem?_toArray, List.getElem?_cons_zero, List.getElem?_cons_succ] <;> rfl) ?_
      refine r_extract rfl (by simp only [upd_get, ev, Nat.reduceEqDiff, ↓reduceIte] <;> rfl) (by simp only [List.getElem?_toArray, List.getElem?_cons_zero, List.getElem?_cons_succ] <;> rfl) ?_
      refine r_assign rfl ?_
      refine r_assign rfl ?_
      refine LW.nil ?_
      refine thenE_norm ?_
      refine cut (K := K18) [0, 1, 5, 11, 12, 13] (fun σ => ?_)
      simp only [setL, keepE, upd_get, ev, Nat.reduceEqDiff, ↓reduceIte]
      refine h18 _ _ ?_; clear h18; try clear K18
      refine CW.seq (fun K19 h19 => ?_)
      refine CW.region ?_
      refine r_move rfl ?_
      refine r_not rfl rfl ?_
      refine r_move rfl ?_
      refine' LW.grpOr (n := 4) (ts := [0, 1, 5, 11]) (d := 82) (tj := 78) rfl (fun hg15_3 => ?_) (fun hg15_3 => ?_) (fun σ => ?_)
      rotate_left
      · simp only [List.take_succ_cons, List.take_zero]
        have hg15_3P := hg15_3
        try simp only [decide_eq_true_eq, decide_eq_false_iff_not, Bool.and_eq_true, Bool.or_eq_true, Bool.and_eq_false_iff, Bool.or_eq_false_iff, Bool.not_eq_true', Bool.not_eq_false', beq_iff_eq, bne_iff_ne] at hg15_3P
        refine LW.want rfl rfl hg15_3 ?_
        refine r_move rfl ?_
        refine LW.want rfl rfl hg15_3 ?_
        refine r_move rfl ?_
        refine LW.want rfl rfl hg15_3 ?_
        refine r_neq rfl rfl rfl ?_
        refine r_pickF rfl rfl hg15_3 ?_
        refine LW.nil (thenE_norm ⟨rfl, rfl, rfl⟩)
      · simp only [List.take_succ_cons, List.take_zero]
        refine LW.skip rfl (fun _ e => by cases e; decide) rfl hg15_3 ?_
        refine LW.skip rfl (fun _ e => by cases e; decide) rfl hg15_3 ?_
        refine LW.skip rfl (fun _ e => by cases e; decide) rfl hg15_3 ?_
        refine r_pickT rfl rfl hg15_3 ?_
        refine LW.nil (thenE_norm ⟨rfl, rfl, rfl⟩)
      simp only [setL, keepE, upd_get, ev, Nat.reduceEqDiff, ↓reduceIte]; simp only [List.drop_succ_cons, List.drop_zero]
      refine LW.nil ?_
      refine thenE_norm (h19 _ _ ?_); clear h19; try clear K19
      refine CW.condF rfl (by simp) ?_
      refine CW.skip ?_
      refine blockE_norm ?_
      refine thenE_norm (h17 _ _ ?_); clear h17; try clear K17
      refine CW.region ?_
      refine r_move rfl ?_
      refine r_add rfl rfl rfl (wr_i64 (by omega) (by omega)) ?_
      refine r_assign rfl ?_
      refine LW.nil ?_
      refine thenE_norm ⟨rfl, ?_⟩
      exact ⟨_, by omega, i + 1, rfl, by omega, rfl, H⟩
    · try simp only [decide_eq_true_eq, decide_eq_false_iff_not, Bool.and_eq_true, Bool.or_eq_true, Bool.and_eq_false_iff, Bool.or_eq_false_iff, Bool.not_eq_true', Bool.not_eq_false', beq_iff_eq, bne_iff_ne, ne_eq, Decidable.not_not] at hc4
      refine CW.exit (thenE_exit (thenE_exit (blockE_hit ?_)))
      refine thenE_norm (h13 _ _ ?_); clear h13; try clear K13
      refine CW.seq (fun K20 h20 => ?_)
      refine CW.region ?_
      refine r_move rfl ?_
      refine r_call rfl Try.call17 (by simp only [List.map_cons, List.map_nil, List.map_toArray, List.toList_toArray, upd_get, ev, Nat.reduceEqDiff, ↓reduceIte] <;> rfl) (Join_c (xs := []) _ _ (Rs.nil (F := Any))) ?_
      rintro _ w17_1 ⟨v17_1, g17_1, rfl, K⟩
      refine ⟨_, rfl, ?_⟩
      replace H := SH.call H K
      clear K
      try dsimp only [replC, List.cons_append, List.nil_append, List.append_nil, Value.cells, List.set_cons_zero, List.set_cons_succ] at H
      rw [join_nil] at H ⊢
      refine r_move rfl ?_
      refine r_extract rfl (by simp only [upd_get, ev, Nat.reduceEqDiff, ↓reduceIte] <;> rfl) (by simp only [List.getElem?_toArray, List.getElem?_cons_zero, List.getElem?_cons_succ] <;> rfl) ?_
      refine r_extract rfl (by simp only [upd_get, ev, Nat.reduceEqDiff, ↓reduceIte] <;> rfl) (by simp only [List.getElem?_toArray, List.getElem?_cons_zero, List.getElem?_cons_succ] <;> rfl) ?_
      refine r_extract rfl (by simp only [upd_get, ev, Nat.reduceEqDiff, ↓reduceIte] <;> rfl) (by simp only [List.getElem?_toArray, List.getElem?_cons_zero, List.getElem?_cons_succ] <;> rfl) ?_
      refine r_assign rfl ?_
      refine r_assign rfl ?_
      refine r_assign rfl ?_
      refine LW.nil ?_
      refine thenE_norm ?_
      refine cut (K := K20) [1, 5, 16] (fun σ => ?_)
      simp only [setL, keepE, upd_get, ev, Nat.reduceEqDiff, ↓reduceIte]
      refine h20 _ _ ?_; clear h20; try clear K20
      refine CW.seq (fun K21 h21 => ?_)
      refine CW.region ?_
      refine r_move rfl ?_
      first
        | refine r_lenV rfl Try.underlying22 (by simp only [upd_get, ev, Nat.reduceEqDiff, ↓reduceIte] <;> rfl) (by first | assumption | exact SH.rsR H (by repeat first | exact At.here | apply At.there) | exact SH.rsO H (by repeat first | exact At.here | apply At.there) | exact Rs.toH (by first | assumption | exact SH.rsR H (by repeat first | exact At.here | apply At.there) | exact SH.rsO H (by repeat first | exact At.here | apply At.there)) (by omega) | exact Rs.toL (by first | assumption | exact SH.rsR H (by repeat first | exact At.here | apply At.there) | exact SH.rsO H (by repeat first | exact At.here | apply At.there)) (by omega) | exact Rs.toLH (by first | assumption | exact SH.rsR H (by repeat first | exact At.here | apply At.there) | exact SH.rsO H (by repeat first | exact At.here | apply At.there)) (by omega) (by omega)) ?_
        | refine r_len rfl Try.underlying22 rfl ?_
      refine r_eql rfl rfl rfl ?_
      refine r_move rfl ?_
      refine' LW.grpAnd (n := 10) (ts := [16, 103, 106, 111]) (d := 102) (tj := 92) rfl (fun hg18_4 => ?_) (fun hg18_4 => ?_) (fun σ => ?_)
      rotate_left
      · simp only [List.take_succ_cons, List.take_zero]
        have hg18_4P := hg18_4
        try simp only [decide_eq_true_eq, decide_eq_false_iff_not, Bool.and_eq_true, Bool.or_eq_true, Bool.and_eq_false_iff, Bool.or_eq_false_iff, Bool.not_eq_true', Bool.not_eq_false', beq_iff_eq, bne_iff_ne] at hg18_4P
        refine LW.want rfl rfl hg18_4 ?_
        refine r_move rfl ?_
        refine LW.want rfl rfl hg18_4 ?_
        refine r_eql rfl rfl rfl ?_
        refine LW.want rfl rfl hg18_4 ?_
        refine r_move rfl ?_
        refine LW.want rfl rfl hg18_4 ?_
        refine r_geq rfl rfl rfl ?_
        refine LW.want rfl rfl hg18_4 ?_
        refine r_move rfl ?_
        refine' LW.grpAnd (n := 3) (ts := [16, 92, 94, 103, 106, 111]) (d := 100) (tj := 97) rfl (fun hg18_9 => ?_) (fun hg18_9 => ?_) (fun σ => ?_)
        rotate_left
        · simp only [List.take_succ_cons, List.take_zero]
          have hg18_9P := hg18_9
          try simp only [decide_eq_true_eq, decide_eq_false_iff_not, Bool.and_eq_true, Bool.or_eq_true, Bool.and_eq_false_iff, Bool.or_eq_false_iff, Bool.not_eq_true', Bool.not_eq_false', beq_iff_eq, bne_iff_ne] at hg18_9P
          refine LW.want rfl rfl hg18_9 ?_
          refine r_move rfl ?_
          refine LW.want rfl rfl hg18_9 ?_
          refine r_lss rfl rfl rfl ?_
          refine LW.want rfl rfl hg18_4 ?_
          refine r_pickT rfl rfl hg18_9 ?_
          refine LW.nil (thenE_norm ⟨rfl, rfl, rfl⟩)
        · simp only [List.take_succ_cons, List.take_zero]
          refine LW.skip rfl (fun _ e => by cases e; decide) rfl hg18_9 ?_
          refine LW.skip rfl (fun _ e => by cases e; decide) rfl hg18_9 ?_
          refine LW.want rfl rfl hg18_4 ?_
          refine r_pickF rfl rfl hg18_9 ?_
          refine LW.nil (thenE_norm ⟨rfl, rfl, rfl⟩)
        simp only [setL, keepE, upd_get, ev, Nat.reduceEqDiff, ↓reduceIte]; simp only [List.drop_succ_cons, List.drop_zero]
        refine LW.want rfl rfl hg18_4 ?_
        refine r_eqlB rfl Try.underlying4 rfl rfl ?_
        refine r_pickT rfl rfl hg18_4 ?_
        refine LW.nil (thenE_norm ⟨rfl, rfl, rfl⟩)
      · simp only [List.take_succ_cons, List.take_zero]
        refine LW.skip rfl (fun _ e => by cases e; decide) rfl hg18_4 ?_
        refine LW.skip rfl (fun _ e => by cases e; decide) rfl hg18_4 ?_
        refine LW.skip rfl (fun _ e => by cases e; decide) rfl hg18_4 ?_
        refine LW.skip rfl (fun _ e => by cases e; decide) rfl hg18_4 ?_
        refine LW.skip rfl (fun _ e => by cases e; decide) rfl hg18_4 ?_
        refine LW.skipU rfl (fun _ e => by cases e; decide) rfl ?_
        refine LW.skipU rfl (fun _ e => by cases e; decide) rfl ?_
        refine LW.skip rfl (fun _ e => by cases e; decide) rfl hg18_4 ?_
        refine LW.skip rfl (fun _ e => by cases e; decide) rfl hg18_4 ?_
        refine r_pickF rfl rfl hg18_4 ?_
        refine LW.nil (thenE_norm ⟨rfl, rfl, rfl⟩)
      simp only [setL, keepE, upd_get, ev, Nat.reduceEqDiff, ↓reduceIte]; simp only [List.drop_succ_cons, List.drop_zero]
      refine r_move rfl ?_
      refine' LW.grpAnd (n := 7) (ts := [111]) (d := 110) (tj := 103) rfl (fun hg18_15 => ?_) (fun hg18_15 => ?_) (fun σ => ?_)
      rotate_left
      · simp only [List.take_succ_cons, List.take_zero]
        have hg18_15P := hg18_15
        try simp only [decide_eq_true_eq, decide_eq_false_iff_not, Bool.and_eq_true, Bool.or_eq_true, Bool.and_eq_false_iff, Bool.or_eq_false_iff, Bool.not_eq_true', Bool.not_eq_false', beq_iff_eq, bne_iff_ne] at hg18_15P
        refine LW.want rfl rfl hg18_15 ?_
        refine r_move rfl ?_
        refine LW.want rfl rfl hg18_15 ?_
        refine r_eql rfl rfl rfl ?_
        refine LW.want rfl rfl hg18_15 ?_
        refine r_move rfl ?_
        refine' LW.grpOr (n := 3) (ts := [103, 111]) (d := 109) (tj := 106) rfl (fun hg18_18 => ?_) (fun hg18_18 => ?_) (fun σ => ?_)
        rotate_left
        · simp only [List.take_succ_cons, List.take_zero]
          have hg18_18P := hg18_18
          try simp only [decide_eq_true_eq, decide_eq_false_iff_not, Bool.and_eq_true, Bool.or_eq_true, Bool.and_eq_false_iff, Bool.or_eq_false_iff, Bool.not_eq_true', Bool.not_eq_false', beq_iff_eq, bne_iff_ne] at hg18_18P
          refine LW.want rfl rfl hg18_18 ?_
          refine r_move rfl ?_
          refine LW.want rfl rfl hg18_18 ?_
          refine r_eql rfl rfl rfl ?_
          refine LW.want rfl rfl hg18_15 ?_
          refine r_pickF rfl rfl hg18_18 ?_
          refine LW.nil (thenE_norm ⟨rfl, rfl, rfl⟩)
        · simp only [List.take_succ_cons, List.take_zero]
          refine LW.skip rfl (fun _ e => by cases e; decide) rfl hg18_18 ?_
          refine LW.skip rfl (fun _ e => by cases e; decide) rfl hg18_18 ?_
          refine LW.want rfl rfl hg18_15 ?_
          refine r_pickT rfl rfl hg18_18 ?_
          refine LW.nil (thenE_norm ⟨rfl, rfl, rfl⟩)
        simp only [setL, keepE, upd_get, ev, Nat.reduceEqDiff, ↓reduceIte]; simp only [List.drop_succ_cons, List.drop_zero]
        refine r_pickT rfl rfl hg18_15 ?_
        refine LW.nil (thenE_norm ⟨rfl, rfl, rfl⟩)
      · simp only [List.take_succ_cons, List.take_zero]
        refine LW.skip rfl (fun _ e => by cases e; decide) rfl hg18_15 ?_
        refine LW.skip rfl (fun _ e => by cases e; decide) rfl hg18_15 ?_
        refine LW.skip rfl (fun _ e => by cases e; decide) rfl hg18_15 ?_
        refine LW.skipU rfl (fun _ e => by cases e; decide) rfl ?_
        refine LW.skipU rfl (fun _ e => by cases e; decide) rfl ?_
        refine LW.skip rfl (fun _ e => by cases e; decide) rfl hg18_15 ?_
        refine r_pickF rfl rfl hg18_15 ?_
        refine LW.nil (thenE_norm ⟨rfl, rfl, rfl⟩)
      simp only [setL, keepE, upd_get, ev, Nat.reduceEqDiff, ↓reduceIte]; simp only [List.drop_succ_cons, List.drop_zero]
      refine r_move rfl ?_
      refine LW.known (t := 111) (c := true) rfl (by
  rw [hl3]
  cases hcl : clientM no
  · simp only [clientM, Bool.and_eq_false_iff, decide_eq_false_iff_not] at hcl
    simp
    omega
  · simp only [clientM, Bool.and_eq_true, decide_eq_true_eq] at hcl
    simp [hcl]) (fun hg18_23 => ?_)
      refine LW.want rfl rfl hg18_23 ?_
      refine r_call rfl Try.call14 (by simp only [List.map_cons, List.map_nil, List.map_toArray, List.toList_toArray, upd_get, ev, Nat.reduceEqDiff, ↓reduceIte] <;> rfl) (awake7_c _) ?_
      rintro _ w18_23 ⟨rfl, X⟩
      refine ⟨_, rfl, ?_⟩
      replace H := SH.same H X
      clear X
      refine r_pickT rfl rfl hg18_23 ?_
      refine r_assign rfl ?_
      refine LW.nil ?_
      refine thenE_norm (h21 _ _ ?_); clear h21; try clear K21
      refine CW.ret (ret1 Try.results4 (by simp only [upd_get, ev, Nat.reduceEqDiff, ↓reduceIte]; rfl) ?_)
      exact ⟨rfl, H.ext⟩

theorem join_ok {xs : List Int} {c : Int} (h : lineOk xs) (hc : (joinM xs c).2.2 = 0) : (joinM xs c).1 = xs ++ [c] ∧ (joinM xs c).2.1 = xs.length ∧ lineOk (xs ++ [c]) ∧ xs.length < 3 := by
  unfold joinM at hc ⊢
  split at hc
  · simp at hc
  · split at hc
    · simp at hc
    · split at hc
      · simp at hc
      · rename_i h1 h2 h3
        rw [if_neg h1, if_neg h2, if_neg h3]
        refine ⟨rfl, rfl, ⟨fun d hd => ?_, ?_⟩, by omega⟩
        · rcases List.mem_append.1 hd with hd | hd
          · exact h.1 d hd
          · rw [List.mem_singleton] at hd; subst hd; simpa using h1
        · rw [List.nodup_append]
          exact ⟨h.2, by simp, fun a ha b hb => by rw [List.mem_singleton] at hb; subst hb; rintro rfl; exact h2 ha⟩
theorem join_code {xs : List Int} {c : Int} (hc : clientM c = true) : ((joinM xs c).2.2 = 0 ∧ c ∉ xs) ∨ ((joinM xs c).2.2 = 5 ∧ 3 ≤ xs.length) ∨ ((joinM xs c).2.2 = 7 ∧ c ∈ xs) := by
  unfold joinM
  rw [if_neg (by rw [hc]; simp)]
  split
  · exact .inr (.inr ⟨rfl, by assumption⟩)
  · split
    · exact .inr (.inl ⟨rfl, by assumption⟩)
    · exact .inl ⟨rfl, by assumption⟩
end Go.Proofs.Ytaggdlbjgjagbaa
