/-
  The walks of layer 7's functions, and of the document's, the second part: what is taken out; what a function says of.
-/
import Derived.Test.YtaggdlbjgjagbaaVLnA
import Derived.Test.YtaggdlbjgjagbaaVSepF
namespace Go.Proofs.Ytaggdlbjgjagbaa
set_option linter.unusedSimpArgs false
set_option linter.unusedVariables false
open Go.V Go.RowKit

set_option maxRecDepth 20000 in
theorem DelI_c {v : Value} {xs : List Int} {g : Option Nat} (i j : Nat) (w : World) (hv : Ow 3 w v xs g) (hij : i < j) (hj : j ≤ xs.length) :
    Calls Try.prog 53 #[v, .int .i64 i, .int .i64 j] w fun e w' => ∃ v', e = .returned v' ∧ SH (fun b => g = some b) Non w w' [.O 3 v' (xs.take i ++ xs.drop j) g] := by
  have h63 := hv.rs.len63
  have H := SH.own1 hv
  obtain ⟨b, cap, cur, rfl, rfl, hnc, hcm, hcl, hct, hone, H⟩ := H.toB At.here (by rintro rfl; simp at hj; omega)
  try dsimp only [replC, List.append_nil, List.cons_append, List.nil_append] at H
  have hc63 : cap ≤ 9223372036854775807 := by simpa [maxLen] using hcm
  have hfl := flat_len xs
  have hs1 : i * Row.sz Int ≤ xs.length * Row.sz Int := Nat.mul_le_mul_right _ (by omega)
  have hs2 : xs.length * Row.sz Int ≤ cap * Row.sz Int := Nat.mul_le_mul_right _ hnc
  have hs3 : (i + (xs.length - j)) * Row.sz Int ≤ xs.length * Row.sz Int := Nat.mul_le_mul_right _ (by omega)
  have hs4 : (i + (xs.length - j)) * Row.sz Int + (xs.length - (i + (xs.length - j))) * Row.sz Int = xs.length * Row.sz Int := by rw [← Nat.add_mul]; congr 1; omega
  have hdl : ((flat xs).drop (j * Row.sz Int)).length = (xs.length - j) * Row.sz Int := by rw [List.length_drop, hfl, ← Nat.sub_mul]
  have hs5 : i * Row.sz Int + (xs.length - j) * Row.sz Int = (i + (xs.length - j)) * Row.sz Int := (Nat.add_mul _ _ _).symm
  refine calls_of_CW Try.func53 rfl Try.ntmps53 (Nat.le_of_ble_eq_true rfl) ?_
  simp only [argE, argFrom, Nat.reduceAdd]
  refine CW.seq (fun K1 h1 => ?_)
  refine CW.region ?_
  refine r_assign rfl ?_
  refine LW.nil ?_
  refine thenE_norm (h1 _ _ ?_); clear h1; try clear K1
  refine CW.seq (fun K2 h2 => ?_)
  refine CW.region ?_
  refine r_move rfl ?_
  refine r_move rfl ?_
  refine r_move rfl ?_
  refine r_move rfl ?_
  first
    | refine r_lenV rfl Try.underlying22 (by simp only [upd_get, ev, Nat.reduceEqDiff, ↓reduceIte] <;> rfl) (by first | assumption | exact SH.rsR H (by (repeat first | exact At.here | apply At.there); done) | exact SH.rsO H (by (repeat first | exact At.here | apply At.there); done) | exact Rs.toH (by first | assumption | exact SH.rsR H (by (repeat first | exact At.here | apply At.there); done) | exact SH.rsO H (by (repeat first | exact At.here | apply At.there); done)) (by omega) | exact Rs.toL (by first | assumption | exact SH.rsR H (by (repeat first | exact At.here | apply At.there); done) | exact SH.rsO H (by (repeat first | exact At.here | apply At.there); done)) (by omega) | exact Rs.toLH (by first | assumption | exact SH.rsR H (by (repeat first | exact At.here | apply At.there); done) | exact SH.rsO H (by (repeat first | exact At.here | apply At.there); done)) (by omega) (by omega) | exact (Rs.nil : Rs Non _ _ _)) ?_
    | refine r_len rfl Try.underlying22 rfl ?_
  refine r_sliceLHMc rfl Try.underlying22 Try.sizeOf3 rfl rfl rfl rfl (by omega) (by omega) (by omega) (by omega) ?_
  intro v1
  refine LW.nil ?_
  refine thenE_norm (h2 _ _ ?_); clear h2; try clear K2
  refine CW.seq (fun K3 h3 => ?_)
  refine CW.seq (fun K4 h4 => ?_)
  refine CW.region ?_
  refine r_move rfl ?_
  refine r_move rfl ?_
  refine r_eql rfl rfl rfl ?_
  refine LW.nil ?_
  refine thenE_norm ?_
  refine cut (K := K4) [0, 1, 2, 16] (fun σ => ?_)
  simp only [setL, keepE, upd_get, ev, Nat.reduceEqDiff, ↓reduceIte]
  refine h4 _ _ ?_; clear h4; try clear K4
  refine CW.condF rfl (by first | rfl | (simp only [decide_eq_true_eq, decide_eq_false_iff_not, Bool.and_eq_true, Bool.or_eq_true, Bool.and_eq_false_iff, Bool.or_eq_false_iff, Bool.not_eq_true', Bool.not_eq_false', beq_iff_eq, bne_iff_ne]; omega) | simp_all) ?_
  refine CW.skip ?_
  refine thenE_norm (h3 _ _ ?_); clear h3; try clear K3
  refine CW.seq (fun K5 h5 => ?_)
  refine CW.region ?_
  refine r_move rfl ?_
  first
    | refine r_lenV rfl Try.underlying22 (by simp only [upd_get, ev, Nat.reduceEqDiff, ↓reduceIte] <;> rfl) (by first | assumption | exact SH.rsR H (by (repeat first | exact At.here | apply At.there); done) | exact SH.rsO H (by (repeat first | exact At.here | apply At.there); done) | exact Rs.toH (by first | assumption | exact SH.rsR H (by (repeat first | exact At.here | apply At.there); done) | exact SH.rsO H (by (repeat first | exact At.here | apply At.there); done)) (by omega) | exact Rs.toL (by first | assumption | exact SH.rsR H (by (repeat first | exact At.here | apply At.there); done) | exact SH.rsO H (by (repeat first | exact At.here | apply At.there); done)) (by omega) | exact Rs.toLH (by first | assumption | exact SH.rsR H (by (repeat first | exact At.here | apply At.there); done) | exact SH.rsO H (by (repeat first | exact At.here | apply At.there); done)) (by omega) (by omega) | exact (Rs.nil : Rs Non _ _ _)) ?_
    | refine r_len rfl Try.underlying22 rfl ?_
  refine r_assign rfl ?_
  refine LW.nil ?_
  refine thenE_norm (h5 _ _ ?_); clear h5; try clear K5
  refine CW.seq (fun K6 h6 => ?_)
  refine CW.drawP [] [] H (by dsimp only [pickC, nthC] <;> rfl) (by repeat first | exact List.Sublist.refl _ | exact List.nil_sublist _ | apply List.Sublist.cons_cons | apply List.Sublist.cons) (by kernel_rfl) rfl ?_
  clear H
  intro w5d H
  refine DL.take (i := 0) [] rfl (by kernel_rfl) (by kernel_rfl) (by kernel_rfl) (by kernel_rfl) rfl rfl (fun u H => x_move ) (SH.sub H (by repeat first | exact List.Sublist.refl _ | exact List.nil_sublist _ | apply List.Sublist.cons_cons | apply List.Sublist.cons)) ?_
  refine DL.take (i := 1) [] rfl (by kernel_rfl) (by kernel_rfl) (by kernel_rfl) (by kernel_rfl) rfl rfl (fun u H => x_move ) (SH.sub H (by repeat first | exact List.Sublist.refl _ | exact List.nil_sublist _ | apply List.Sublist.cons_cons | apply List.Sublist.cons)) ?_
  refine DL.take (i := 2) [] rfl (by kernel_rfl) (by kernel_rfl) (by kernel_rfl) (by kernel_rfl) rfl rfl (fun u H => x_sliceHc Try.underlying22 Try.sizeOf3 rfl rfl (by omega) (by omega)) (SH.sub H (by repeat first | exact List.Sublist.refl _ | exact List.nil_sublist _ | apply List.Sublist.cons_cons | apply List.Sublist.cons)) ?_
  refine DL.take (i := 3) [] rfl (by kernel_rfl) (by kernel_rfl) (by kernel_rfl) (by kernel_rfl) rfl rfl (fun u H => x_move ) (SH.sub H (by repeat first | exact List.Sublist.refl _ | exact List.nil_sublist _ | apply List.Sublist.cons_cons | apply List.Sublist.cons)) ?_
  refine DL.take (i := 4) [] rfl (by kernel_rfl) (by kernel_rfl) (by kernel_rfl) (by kernel_rfl) rfl rfl (fun u H => x_move ) (SH.sub H (by repeat first | exact List.Sublist.refl _ | exact List.nil_sublist _ | apply List.Sublist.cons_cons | apply List.Sublist.cons)) ?_
  refine DL.take (i := 5) [] rfl (by kernel_rfl) (by kernel_rfl) (by kernel_rfl) (by kernel_rfl) rfl rfl (fun u H => x_sliceLc Try.underlying22 Try.sizeOf3 rfl rfl (by omega) (by omega)) (SH.sub H (by repeat first | exact List.Sublist.refl _ | exact List.nil_sublist _ | apply List.Sublist.cons_cons | apply List.Sublist.cons)) ?_
  refine DL.one (i := 6) (by kernel_rfl) rfl rfl ?_
  refine s_appendB H rfl Try.underlying22 Try.underlying22 Try.type3 rfl rfl rfl (by (repeat first | exact At.here | apply At.there); done) (Blk.tail (H.blk At.here) hct hcl hnc hcm hone.flat hj) (by show ((i : Int)).toNat + _ ≤ cap; omega) hcm hcl ?_
  clear H
  intro w5 H
  try dsimp only [replC, List.append_nil, List.nil_append] at H
  have hcl5 : (spliceL cur (i * Row.sz Int) ((flat xs).drop (j * Row.sz Int))).length = cap * Row.sz Int := by rw [splice_len (by rw [hdl, hcl]; omega), hcl]
  refine LW.nil (thenE_norm ⟨fun _ => (SH.sub H (by repeat first | exact List.Sublist.refl _ | exact List.nil_sublist _ | apply List.Sublist.cons_cons | apply List.Sublist.cons)), ?_⟩)
  refine DL.take (i := 7) [] rfl (by kernel_rfl) (by kernel_rfl) (by kernel_rfl) (by kernel_rfl) rfl rfl (fun u H => x_assign ) (SH.sub H (by repeat first | exact List.Sublist.refl _ | exact List.nil_sublist _ | apply List.Sublist.cons_cons | apply List.Sublist.cons)) ?_
  refine DL.done (by kernel_rfl) ?_
  refine thenE_norm ?_
  refine cut (K := K6) [0, 7] (fun σ => ?_)
  simp only [setL, keepE, upd_get, ev, Nat.reduceEqDiff, ↓reduceIte]
  refine h6 _ _ ?_; clear h6; try clear K6
  refine CW.seq (fun K7 h7 => ?_)
  refine CW.region ?_
  refine r_move rfl ?_
  refine r_move rfl ?_
  first
    | refine r_lenV rfl Try.underlying22 (by simp only [upd_get, ev, Nat.reduceEqDiff, ↓reduceIte] <;> rfl) (by first | assumption | exact SH.rsR H (by (repeat first | exact At.here | apply At.there); done) | exact SH.rsO H (by (repeat first | exact At.here | apply At.there); done) | exact Rs.toH (by first | assumption | exact SH.rsR H (by (repeat first | exact At.here | apply At.there); done) | exact SH.rsO H (by (repeat first | exact At.here | apply At.there); done)) (by omega) | exact Rs.toL (by first | assumption | exact SH.rsR H (by (repeat first | exact At.here | apply At.there); done) | exact SH.rsO H (by (repeat first | exact At.here | apply At.there); done)) (by omega) | exact Rs.toLH (by first | assumption | exact SH.rsR H (by (repeat first | exact At.here | apply At.there); done) | exact SH.rsO H (by (repeat first | exact At.here | apply At.there); done)) (by omega) (by omega) | exact (Rs.nil : Rs Non _ _ _)) ?_
    | refine r_len rfl Try.underlying22 rfl ?_
  refine r_move rfl ?_
  refine r_sliceLHp rfl Try.underlying22 Try.sizeOf3 rfl rfl rfl (by omega) (by omega) (by omega) (by omega) ?_
  refine s_clearB H Try.underlying22 Try.zeroValue3 rfl rfl rfl rfl (by omega) (by (repeat first | exact At.here | apply At.there); done) (by show (i + (xs.length - j)) * Row.sz Int + (xs.length - (i + (xs.length - j))) * Row.sz Int ≤ _; erw [hcl5]; omega) ?_
  clear H
  intro w6 zs hzs H
  try dsimp only [replC, List.append_nil, List.nil_append] at H
  refine LW.nil ?_
  refine thenE_norm (h7 _ _ ?_); clear h7; try clear K7
  refine CW.seq (fun K8 h8 => ?_)
  refine CW.region ?_
  refine r_move rfl ?_
  refine r_assign rfl ?_
  refine LW.nil ?_
  refine thenE_norm ?_
  refine cut (K := K8) [6] (fun σ => ?_)
  simp only [setL, keepE, upd_get, ev, Nat.reduceEqDiff, ↓reduceIte]
  refine h8 _ _ ?_; clear h8; try clear K8
  refine CW.ret (ret1 Try.results53 (by simp only [upd_get, ev, Nat.reduceEqDiff, ↓reduceIte]; rfl) ?_)
  have hout := SH.ofB (cap := cap) H At.here (xs.take i ++ xs.drop j) (i + (xs.length - j)) (by simp; omega) ((hone.take i).app (hone.drop j)) (by
    erw [splice_len (by erw [hcl5, hzs]; show (i + (xs.length - j)) * Row.sz Int + (xs.length - (i + (xs.length - j))) * Row.sz Int ≤ _; omega)]
    exact hcl5) (by omega) hcm (by
    refine (splice_front (by erw [hcl5]; omega)).trans ?_
    have h1 := splice_upto (cur := cur) (vs := (flat xs).drop (j * Row.sz Int)) (o := i * Row.sz Int) (by omega)
    rw [hdl, hs5] at h1
    refine h1.trans ?_
    rw [flat_app, flat_take, flat_drop, ← hct, List.take_take, Nat.min_eq_left hs1])
  exact ⟨_, rfl, hout⟩
set_option maxRecDepth 20000 in
theorem IxfI_c {F : Nat → Prop} {v fv : Value} {xs : List Int} {S : World → Prop} {p : Int → Bool} {D : Int → Prop} (w : World) (hv : Rs F w v xs) (hp : PredF Try.prog S fv i64v p D) (hD : ∀ x ∈ xs, D x) (hS : ∀ w', Ext0 w w' → S w') :
    Calls Try.prog 65 #[v, fv] w fun e w' => e = .returned (.int .i64 (findM p xs)) ∧ Ext0 w w' := by
  have h63 := hv.len63
  have H := (SH.start w).arg hv
  obtain ⟨f, fs, cs, rfl, hcf, hcall⟩ := hp
  refine calls_of_CW Try.func65 rfl Try.ntmps65 (Nat.le_of_ble_eq_true rfl) ?_
  simp only [argE, argFrom, Nat.reduceAdd]
  refine CW.seq (fun K1 h1 => ?_)
  refine CW.region ?_
  refine r_assign rfl ?_
  refine LW.nil ?_
  refine thenE_norm (h1 _ _ ?_); clear h1; try clear K1
  refine CW.seq (fun K2 h2 => ?_)
  refine CW.seq (fun K3 h3 => ?_)
  refine CW.region ?_
  refine r_move rfl ?_
  first
    | refine r_lenV rfl Try.underlying22 (by simp only [upd_get, ev, Nat.reduceEqDiff, ↓reduceIte] <;> rfl) (by first | assumption | exact SH.rsR H (by (repeat first | exact At.here | apply At.there); done) | exact SH.rsO H (by (repeat first | exact At.here | apply At.there); done) | exact (Rs.nil : Rs Non _ _ _)) ?_
    | refine r_len rfl Try.underlying22 rfl ?_
  refine r_move rfl ?_
  refine LW.nil ?_
  refine thenE_norm (h3 _ _ ?_); clear h3; try clear K3
  refine CW.block ?_
  refine CW.loopR [0, 1, 7] [8] (fun m vs w' => ∃ i : Nat, vs = [.int .i64 i] ∧ i ≤ xs.length ∧ m = xs.length - i ∧ (xs.take i).any p = false ∧ SH Non Any w w' [.R (Old w) v xs]) (xs.length) ?_ ?_
  · exact ⟨0, rfl, by omega, by omega, by simp, H⟩
  try clear H
  rintro n1 vs1 wL1 σ ⟨i, rfl, hi, rfl, hno, H⟩
  simp only [setL, keepE, upd_get, ev, Nat.reduceEqDiff, ↓reduceIte]
  refine CW.seq (fun K4 h4 => ?_)
  refine CW.region ?_
  refine r_lss rfl rfl rfl ?_
  refine LW.nil ?_
  refine thenE_norm (h4 _ _ ?_); clear h4; try clear K4
  refine CW.seq (fun K5 h5 => ?_)
  refine CW.cond rfl (fun hc1 => ?_) (fun hc1 => ?_)
  · try simp only [decide_eq_true_eq, decide_eq_false_iff_not, Bool.and_eq_true, Bool.or_eq_true, Bool.and_eq_false_iff, Bool.or_eq_false_iff, Bool.not_eq_true', Bool.not_eq_false', beq_iff_eq, bne_iff_ne, ne_eq, Decidable.not_not] at hc1
    refine CW.skip ?_
    refine thenE_norm (h5 _ _ ?_); clear h5; try clear K5
    refine CW.seq (fun K6 h6 => ?_)
    refine CW.block ?_
    refine CW.seq (fun K7 h7 => ?_)
    refine CW.region ?_
    refine r_move rfl ?_
    refine r_assign rfl ?_
    refine LW.nil ?_
    refine thenE_norm (h7 _ _ ?_); clear h7; try clear K7
    refine CW.seq (fun K8 h8 => ?_)
    obtain ⟨x, hx⟩ := get_of_lt (show i < xs.length by omega)
    refine CW.region ?_
    refine r_move rfl ?_
    refine r_move rfl ?_
    refine r_move rfl ?_
    refine r_indexAddrV rfl Try.underlying22 (by simp only [upd_get, ev, Nat.reduceEqDiff, ↓reduceIte] <;> rfl) rfl (by first | assumption | exact SH.rsR H (by (repeat first | exact At.here | apply At.there); done) | exact SH.rsO H (by (repeat first | exact At.here | apply At.there); done) | exact (Rs.nil : Rs Non _ _ _)) (by exact Try.sizeOf3) (by omega) (by omega) ?_
    refine r_load rfl Try.isAgg3 rfl (by first | exact Rs.cell (by first | assumption | exact SH.rsR H (by (repeat first | exact At.here | apply At.there); done) | exact SH.rsO H (by (repeat first | exact At.here | apply At.there); done) | exact (Rs.nil : Rs Non _ _ _)) (by assumption) (by rfl) | exact Rs.cell0 (by first | assumption | exact SH.rsR H (by (repeat first | exact At.here | apply At.there); done) | exact SH.rsO H (by (repeat first | exact At.here | apply At.there); done) | exact (Rs.nil : Rs Non _ _ _)) (by assumption) (by rfl) | assumption) ?_
    refine r_callV rfl rfl hcf (by simp only [List.map_cons, List.map_nil, List.map_toArray, List.toList_toArray, upd_get, ev, Nat.reduceEqDiff, ↓reduceIte] <;> rfl) rfl (hcall x _ (hD x (List.mem_of_getElem? hx)) (hS _ H.ext)) ?_
    rintro _ w4_5 ⟨rfl, X⟩
    refine ⟨_, rfl, ?_⟩
    replace H := SH.same H X
    clear X
    refine LW.nil ?_
    refine thenE_norm ?_
    refine cut (K := K8) [0, 1, 5, 7, 8, 16] (fun σ => ?_)
    simp only [setL, keepE, upd_get, ev, Nat.reduceEqDiff, ↓reduceIte]
    refine h8 _ _ ?_; clear h8; try clear K8
    refine CW.cond rfl (fun hc2 => ?_) (fun hc2 => ?_)
    · try simp only [decide_eq_true_eq, decide_eq_false_iff_not, Bool.and_eq_true, Bool.or_eq_true, Bool.and_eq_false_iff, Bool.or_eq_false_iff, Bool.not_eq_true', Bool.not_eq_false', beq_iff_eq, bne_iff_ne, ne_eq, Decidable.not_not] at hc2
      refine CW.seq (fun K9 h9 => ?_)
      refine CW.region ?_
      refine r_move rfl ?_
      refine r_assign rfl ?_
      refine LW.nil ?_
      refine thenE_norm (h9 _ _ ?_); clear h9; try clear K9
      refine CW.ret (blockE_ret (thenE_ret (thenE_ret (blockE_ret (thenE_ret (ret1 Try.results65 (by simp only [upd_get, ev, Nat.reduceEqDiff, ↓reduceIte]; rfl) ?_))))))
      exact ⟨by rw [find_at hx hno hc2], H.ext⟩
    · try simp only [decide_eq_true_eq, decide_eq_false_iff_not, Bool.and_eq_true, Bool.or_eq_true, Bool.and_eq_false_iff, Bool.or_eq_false_iff, Bool.not_eq_true', Bool.not_eq_false', beq_iff_eq, bne_iff_ne, ne_eq, Decidable.not_not] at hc2
      refine CW.skip ?_
      refine blockE_norm ?_
      refine thenE_norm (h6 _ _ ?_); clear h6; try clear K6
      refine CW.region ?_
      refine r_add rfl rfl rfl (wr_i64 (by omega) (by omega)) ?_
      refine r_move rfl ?_
      refine LW.nil ?_
      refine thenE_norm ⟨rfl, ?_⟩
      exact ⟨_, by omega, i + 1, rfl, by omega, rfl, any_snoc hx hno (by simpa using hc2), H⟩
  · try simp only [decide_eq_true_eq, decide_eq_false_iff_not, Bool.and_eq_true, Bool.or_eq_true, Bool.and_eq_false_iff, Bool.or_eq_false_iff, Bool.not_eq_true', Bool.not_eq_false', beq_iff_eq, bne_iff_ne, ne_eq, Decidable.not_not] at hc1
    refine CW.exit (thenE_exit (thenE_exit (blockE_hit ?_)))
    refine thenE_norm (h2 _ _ ?_); clear h2; try clear K2
    refine CW.seq (fun K10 h10 => ?_)
    refine CW.region ?_
    refine r_assign rfl ?_
    refine LW.nil ?_
    refine thenE_norm (h10 _ _ ?_); clear h10; try clear K10
    refine CW.ret (ret1 Try.results65 (by simp only [upd_get, ev, Nat.reduceEqDiff, ↓reduceIte]; rfl) ?_)
    obtain rfl : i = xs.length := by omega
    rw [List.take_length] at hno
    exact ⟨by rw [findM, hno]; rfl, H.ext⟩
set_option maxRecDepth 20000 in
theorem DelfI_c {v fv : Value} {xs : List Int} {g : Option Nat} {S : World → Prop} {p : Int → Bool} {D : Int → Prop} (w : World) (hv : Ow 3 w v xs g) (hp : PredF Try.prog S fv i64v p D) (hD : ∀ x ∈ xs, D x) (hS : ∀ w', Ext (fun b => g = some b) w w' → S w') :
    Calls Try.prog 54 #[v, fv] w fun e w' => ∃ v', e = .returned v' ∧ SH (fun b => g = some b) Non w w' [.O 3 v' (xs.filter fun x => !p x) g] := by
  have h63 := hv.rs.len63
  have hone := hv.2
  have H := SH.own1 hv
  have hp' := hp
  obtain ⟨f, fs, cs, rfl, hcf, hcall⟩ := hp
  refine calls_of_CW Try.func54 rfl Try.ntmps54 (Nat.le_of_ble_eq_true rfl) ?_
  simp only [argE, argFrom, Nat.reduceAdd]
  refine CW.seq (fun K1 h1 => ?_)
  refine CW.region ?_
  refine r_assign rfl ?_
  refine LW.nil ?_
  refine thenE_norm (h1 _ _ ?_); clear h1; try clear K1
  refine CW.seq (fun K2 h2 => ?_)
  refine CW.region ?_
  refine r_move rfl ?_
  refine r_move rfl ?_
  refine r_call rfl Try.call65 (by simp only [List.map_cons, List.map_nil, List.map_toArray, List.toList_toArray, upd_get, ev, Nat.reduceEqDiff, ↓reduceIte] <;> rfl) (IxfI_c _ (by first | assumption | exact SH.rsR H (by (repeat first | exact At.here | apply At.there); done) | exact SH.rsO H (by (repeat first | exact At.here | apply At.there); done) | exact Rs.toH (by first | assumption | exact SH.rsR H (by (repeat first | exact At.here | apply At.there); done) | exact SH.rsO H (by (repeat first | exact At.here | apply At.there); done)) (by omega) | exact Rs.toL (by first | assumption | exact SH.rsR H (by (repeat first | exact At.here | apply At.there); done) | exact SH.rsO H (by (repeat first | exact At.here | apply At.there); done)) (by omega) | exact Rs.toLH (by first | assumption | exact SH.rsR H (by (repeat first | exact At.here | apply At.there); done) | exact SH.rsO H (by (repeat first | exact At.here | apply At.there); done)) (by omega) (by omega) | exact (Rs.nil : Rs Non _ _ _)) hp' hD (fun w' e => hS w' (H.ext.trans0 e))) ?_
  rintro _ w1_2 ⟨rfl, X⟩
  refine ⟨_, rfl, ?_⟩
  replace H := SH.same H X
  clear X
  refine r_assign rfl ?_
  refine LW.nil ?_
  refine thenE_norm (h2 _ _ ?_); clear h2; try clear K2
  refine CW.seq (fun K3 h3 => ?_)
  refine CW.seq (fun K4 h4 => ?_)
  refine CW.region ?_
  refine r_move rfl ?_
  refine r_eql rfl rfl rfl ?_
  refine LW.nil ?_
  refine thenE_norm (h4 _ _ ?_); clear h4; try clear K4
  refine CW.cond rfl (fun hc1 => ?_) (fun hc1 => ?_)
  · try simp only [decide_eq_true_eq, decide_eq_false_iff_not, Bool.and_eq_true, Bool.or_eq_true, Bool.and_eq_false_iff, Bool.or_eq_false_iff, Bool.not_eq_true', Bool.not_eq_false', beq_iff_eq, bne_iff_ne, ne_eq, Decidable.not_not] at hc1
    refine CW.seq (fun K5 h5 => ?_)
    refine CW.region ?_
    refine r_move rfl ?_
    refine r_assign rfl ?_
    refine LW.nil ?_
    refine thenE_norm ?_
    refine cut (K := K5) [4] (fun σ => ?_)
    simp only [setL, keepE, upd_get, ev, Nat.reduceEqDiff, ↓reduceIte]
    refine h5 _ _ ?_; clear h5; try clear K5
    refine CW.ret (thenE_ret (ret1 Try.results54 (by simp only [upd_get, ev, Nat.reduceEqDiff, ↓reduceIte]; rfl) ?_))
    have hno : xs.any p = false := by
      cases h : xs.any p
      · rfl
      · rw [findM, if_pos h] at hc1; omega
    have hf : (xs.filter fun x => !p x) = xs := List.filter_eq_self.2 fun x hx => by have := List.any_eq_false.1 hno x hx; simpa using this
    rw [hf]
    exact ⟨_, rfl, H⟩
  · try simp only [decide_eq_true_eq, decide_eq_false_iff_not, Bool.and_eq_true, Bool.or_eq_true, Bool.and_eq_false_iff, Bool.or_eq_false_iff, Bool.not_eq_true', Bool.not_eq_false', beq_iff_eq, bne_iff_ne, ne_eq, Decidable.not_not] at hc1
    refine CW.skip ?_
    refine thenE_norm (h3 _ _ ?_); clear h3; try clear K3
    refine CW.seq (fun K6 h6 => ?_)
    refine CW.seq (fun K7 h7 => ?_)
    have hany : xs.any p = true := by
      cases h : xs.any p
      · rw [findM, h] at hc1; exact absurd rfl hc1
      · rfl
    have hfi : xs.findIdx p < xs.length := List.findIdx_lt_length_of_exists (by simpa using hany)
    have hfm : findM p xs = (xs.findIdx p : Int) := by rw [findM, if_pos hany]
    rw [hfm]
    generalize hI : xs.findIdx p = i0 at *
    refine CW.region ?_
    refine r_move rfl ?_
    refine r_add rfl rfl rfl (wr_i64 (by omega) (by omega)) ?_
    refine r_assign rfl ?_
    refine LW.nil ?_
    refine thenE_norm ?_
    refine cut (K := K7) [0, 1, 5, 6] (fun σ => ?_)
    simp only [setL, keepE, upd_get, ev, Nat.reduceEqDiff, ↓reduceIte]
    refine h7 _ _ ?_; clear h7; try clear K7
    refine CW.block ?_
    refine CW.loopR [0, 1] [5, 6] (fun m vs w' => ∃ (i j : Nat) (ys : List Int), vs = [.int .i64 i, .int .i64 j] ∧ i < j ∧ j ≤ xs.length ∧ m = xs.length - j ∧ ys.length = xs.length ∧ ys.take i = (xs.take j).filter (fun x => !p x) ∧ ys.drop j = xs.drop j ∧ SH (fun b => g = some b) Non w w' [.O 3 v ys g]) ((xs.length - (i0 + 1))) ?_ ?_
    · refine ⟨i0, i0 + 1, xs, rfl, by omega, by omega, rfl, rfl, ?_, rfl, H⟩
      obtain ⟨x, hx⟩ := get_of_lt hfi
      have hl := lt_of_get hx
      have hpx : p x = true := by
        have := List.findIdx_getElem (p := p) (xs := xs) (w := by omega)
        have e : xs[i0]'hl = x := by rw [List.getElem?_eq_getElem hl] at hx; cases hx; rfl
        simp only [hI, e] at this
        exact this
      rw [V.take_snoc hx, List.filter_append]
      have h1 : (xs.take i0).filter (fun x => !p x) = xs.take i0 := List.filter_eq_self.2 fun y hy => by
        obtain ⟨k, hk, rfl⟩ := List.mem_take_iff_getElem.1 hy
        have := List.not_of_lt_findIdx (p := p) (xs := xs) (i := k) (by omega)
        simpa using this
      rw [h1]; simp [hpx]
    try clear H
    rintro n1 vs1 wL1 σ ⟨i, j, ys, rfl, hij, hj, rfl, hyl, htk, hdr, H⟩
    simp only [setL, keepE, upd_get, ev, Nat.reduceEqDiff, ↓reduceIte]
    refine CW.seq (fun K8 h8 => ?_)
    refine CW.seq (fun K9 h9 => ?_)
    refine CW.region ?_
    refine r_move rfl ?_
    refine r_move rfl ?_
    first
      | refine r_lenV rfl Try.underlying22 (by simp only [upd_get, ev, Nat.reduceEqDiff, ↓reduceIte] <;> rfl) (by first | assumption | exact SH.rsR H (by (repeat first | exact At.here | apply At.there); done) | exact SH.rsO H (by (repeat first | exact At.here | apply At.there); done) | exact Rs.toH (by first | assumption | exact SH.rsR H (by (repeat first | exact At.here | apply At.there); done) | exact SH.rsO H (by (repeat first | exact At.here | apply At.there); done)) (by omega) | exact Rs.toL (by first | assumption | exact SH.rsR H (by (repeat first | exact At.here | apply At.there); done) | exact SH.rsO H (by (repeat first | exact At.here | apply At.there); done)) (by omega) | exact Rs.toLH (by first | assumption | exact SH.rsR H (by (repeat first | exact At.here | apply At.there); done) | exact SH.rsO H (by (repeat first | exact At.here | apply At.there); done)) (by omega) (by omega) | exact (Rs.nil : Rs Non _ _ _)) ?_
      | refine r_len rfl Try.underlying22 rfl ?_
    refine r_lss rfl rfl rfl ?_
    refine LW.nil ?_
    refine thenE_norm (h9 _ _ ?_); clear h9; try clear K9
    refine CW.cond rfl (fun hc2 => ?_) (fun hc2 => ?_)
    · try simp only [decide_eq_true_eq, decide_eq_false_iff_not, Bool.and_eq_true, Bool.or_eq_true, Bool.and_eq_false_iff, Bool.or_eq_false_iff, Bool.not_eq_true', Bool.not_eq_false', beq_iff_eq, bne_iff_ne, ne_eq, Decidable.not_not] at hc2
      refine CW.skip ?_
      refine thenE_norm (h8 _ _ ?_); clear h8; try clear K8
      refine CW.seq (fun K10 h10 => ?_)
      refine CW.block ?_
      refine CW.seq (fun K11 h11 => ?_)
      obtain ⟨x, hx⟩ := get_of_lt (show j < ys.length by omega)
      obtain ⟨x0, hx0⟩ := get_of_lt (show i < ys.length by omega)
      have hxx : xs[j]? = some x := by
        have h1 : (ys.drop j)[0]? = some x := by simpa using hx
        rw [hdr] at h1
        simpa using h1
      have hxo : (Row.cells x).all oneC = true := hone x (List.mem_of_getElem? hxx)
      have hdr2 : ys.drop (j + 1) = xs.drop (j + 1) := by rw [← List.drop_drop, ← List.drop_drop, hdr]
      refine CW.region ?_
      refine r_move rfl ?_
      refine r_move rfl ?_
      refine r_indexAddrV rfl Try.underlying22 (by simp only [upd_get, ev, Nat.reduceEqDiff, ↓reduceIte] <;> rfl) rfl (by first | assumption | exact SH.rsR H (by (repeat first | exact At.here | apply At.there); done) | exact SH.rsO H (by (repeat first | exact At.here | apply At.there); done) | exact Rs.toH (by first | assumption | exact SH.rsR H (by (repeat first | exact At.here | apply At.there); done) | exact SH.rsO H (by (repeat first | exact At.here | apply At.there); done)) (by omega) | exact Rs.toL (by first | assumption | exact SH.rsR H (by (repeat first | exact At.here | apply At.there); done) | exact SH.rsO H (by (repeat first | exact At.here | apply At.there); done)) (by omega) | exact Rs.toLH (by first | assumption | exact SH.rsR H (by (repeat first | exact At.here | apply At.there); done) | exact SH.rsO H (by (repeat first | exact At.here | apply At.there); done)) (by omega) (by omega) | exact (Rs.nil : Rs Non _ _ _)) (by exact Try.sizeOf3) (by omega) (by omega) ?_
      refine r_load rfl Try.isAgg3 rfl (by first | exact Rs.cell0 (by exact SH.rsO H At.here) hx (by rfl) | exact Rs.cells0 (by exact SH.rsO H At.here) hx) ?_
      refine r_assign rfl ?_
      refine LW.nil ?_
      refine thenE_norm ?_
      refine cut (K := K11) [0, 1, 5, 6, 7] (fun σ => ?_)
      simp only [setL, keepE, upd_get, ev, Nat.reduceEqDiff, ↓reduceIte]
      refine h11 _ _ ?_; clear h11; try clear K11
      refine CW.seq (fun K12 h12 => ?_)
      refine CW.region ?_
      refine r_move rfl ?_
      refine r_move rfl ?_
      refine r_callV rfl rfl hcf (by simp only [List.map_cons, List.map_nil, List.map_toArray, List.toList_toArray, upd_get, ev, Nat.reduceEqDiff, ↓reduceIte] <;> rfl) rfl (hcall x _ (hD x (List.mem_of_getElem? hxx)) (hS _ H.ext)) ?_
      rintro _ w8_2 ⟨rfl, X⟩
      refine ⟨_, rfl, ?_⟩
      replace H := SH.same H X
      clear X
      refine r_not rfl rfl ?_
      refine LW.nil ?_
      refine thenE_norm (h12 _ _ ?_); clear h12; try clear K12
      refine CW.cond rfl (fun hc3 => ?_) (fun hc3 => ?_)
      · try simp only [decide_eq_true_eq, decide_eq_false_iff_not, Bool.and_eq_true, Bool.or_eq_true, Bool.and_eq_false_iff, Bool.or_eq_false_iff, Bool.not_eq_true', Bool.not_eq_false', beq_iff_eq, bne_iff_ne, ne_eq, Decidable.not_not] at hc3
        refine CW.seq (fun K13 h13 => ?_)
        refine CW.region ?_
        refine r_move rfl ?_
        refine r_move rfl ?_
        refine r_move rfl ?_
        refine r_indexAddrV rfl Try.underlying22 (by simp only [upd_get, ev, Nat.reduceEqDiff, ↓reduceIte] <;> rfl) rfl (by first | assumption | exact SH.rsR H (by (repeat first | exact At.here | apply At.there); done) | exact SH.rsO H (by (repeat first | exact At.here | apply At.there); done) | exact Rs.toH (by first | assumption | exact SH.rsR H (by (repeat first | exact At.here | apply At.there); done) | exact SH.rsO H (by (repeat first | exact At.here | apply At.there); done)) (by omega) | exact Rs.toL (by first | assumption | exact SH.rsR H (by (repeat first | exact At.here | apply At.there); done) | exact SH.rsO H (by (repeat first | exact At.here | apply At.there); done)) (by omega) | exact Rs.toLH (by first | assumption | exact SH.rsR H (by (repeat first | exact At.here | apply At.there); done) | exact SH.rsO H (by (repeat first | exact At.here | apply At.there); done)) (by omega) (by omega) | exact (Rs.nil : Rs Non _ _ _)) (by exact Try.sizeOf3) (by omega) (by omega) ?_
        refine s_storeR (o := 0) (x1 := x) H Try.sizeOf3 rfl (by simp only [upd_get, ev, Nat.reduceEqDiff, ↓reduceIte] <;> rfl) (by first | rfl | assumption | exact Rs.oneC (by first | assumption | exact SH.rsR H (by (repeat first | exact At.here | apply At.there); done) | exact SH.rsO H (by (repeat first | exact At.here | apply At.there); done) | exact Rs.toH (by first | assumption | exact SH.rsR H (by (repeat first | exact At.here | apply At.there); done) | exact SH.rsO H (by (repeat first | exact At.here | apply At.there); done)) (by omega) | exact Rs.toL (by first | assumption | exact SH.rsR H (by (repeat first | exact At.here | apply At.there); done) | exact SH.rsO H (by (repeat first | exact At.here | apply At.there); done)) (by omega) | exact Rs.toLH (by first | assumption | exact SH.rsR H (by (repeat first | exact At.here | apply At.there); done) | exact SH.rsO H (by (repeat first | exact At.here | apply At.there); done)) (by omega) (by omega) | exact (Rs.nil : Rs Non _ _ _)) | (simp only [List.all_cons, List.all_nil, Bool.and_true, Bool.and_eq_true, Row.cells]; (repeat' constructor) <;> first | rfl | assumption | exact Rs.oneC (by first | assumption | exact SH.rsR H (by (repeat first | exact At.here | apply At.there); done) | exact SH.rsO H (by (repeat first | exact At.here | apply At.there); done) | exact Rs.toH (by first | assumption | exact SH.rsR H (by (repeat first | exact At.here | apply At.there); done) | exact SH.rsO H (by (repeat first | exact At.here | apply At.there); done)) (by omega) | exact Rs.toL (by first | assumption | exact SH.rsR H (by (repeat first | exact At.here | apply At.there); done) | exact SH.rsO H (by (repeat first | exact At.here | apply At.there); done)) (by omega) | exact Rs.toLH (by first | assumption | exact SH.rsR H (by (repeat first | exact At.here | apply At.there); done) | exact SH.rsO H (by (repeat first | exact At.here | apply At.there); done)) (by omega) (by omega) | exact (Rs.nil : Rs Non _ _ _)))) (by (repeat first | exact At.here | apply At.there); done) (by assumption) (by rfl) (by rfl) (by rfl) (by first | rfl | assumption | exact Rs.oneC (by first | assumption | exact SH.rsR H (by (repeat first | exact At.here | apply At.there); done) | exact SH.rsO H (by (repeat first | exact At.here | apply At.there); done) | exact Rs.toH (by first | assumption | exact SH.rsR H (by (repeat first | exact At.here | apply At.there); done) | exact SH.rsO H (by (repeat first | exact At.here | apply At.there); done)) (by omega) | exact Rs.toL (by first | assumption | exact SH.rsR H (by (repeat first | exact At.here | apply At.there); done) | exact SH.rsO H (by (repeat first | exact At.here | apply At.there); done)) (by omega) | exact Rs.toLH (by first | assumption | exact SH.rsR H (by (repeat first | exact At.here | apply At.there); done) | exact SH.rsO H (by (repeat first | exact At.here | apply At.there); done)) (by omega) (by omega) | exact (Rs.nil : Rs Non _ _ _)) | (simp only [List.all_cons, List.all_nil, Bool.and_true, Bool.and_eq_true, Row.cells]; (repeat' constructor) <;> first | rfl | assumption | exact Rs.oneC (by first | assumption | exact SH.rsR H (by (repeat first | exact At.here | apply At.there); done) | exact SH.rsO H (by (repeat first | exact At.here | apply At.there); done) | exact Rs.toH (by first | assumption | exact SH.rsR H (by (repeat first | exact At.here | apply At.there); done) | exact SH.rsO H (by (repeat first | exact At.here | apply At.there); done)) (by omega) | exact Rs.toL (by first | assumption | exact SH.rsR H (by (repeat first | exact At.here | apply At.there); done) | exact SH.rsO H (by (repeat first | exact At.here | apply At.there); done)) (by omega) | exact Rs.toLH (by first | assumption | exact SH.rsR H (by (repeat first | exact At.here | apply At.there); done) | exact SH.rsO H (by (repeat first | exact At.here | apply At.there); done)) (by omega) (by omega) | exact (Rs.nil : Rs Non _ _ _)))) ?_
        clear H
        intro w9_4 H
        try dsimp only [replC, List.cons_append, List.nil_append, List.append_nil, agg, cellsL, Value.cells, List.toList_toArray, List.set_cons_zero, List.set_cons_succ, spliceL, List.take_succ_cons, List.take_zero, List.drop_succ_cons, List.drop_zero, List.length_cons, List.length_nil, Nat.reduceAdd, Row.cells] at H
        refine LW.nil ?_
        refine thenE_norm ?_
        refine cut (K := K13) [0, 1, 5, 6] (fun σ => ?_)
        simp only [setL, keepE, upd_get, ev, Nat.reduceEqDiff, ↓reduceIte]
        refine h13 _ _ ?_; clear h13; try clear K13
        refine CW.region ?_
        refine r_move rfl ?_
        refine r_add rfl rfl rfl (wr_i64 (by omega) (by omega)) ?_
        refine r_assign rfl ?_
        refine LW.nil ?_
        refine blockE_norm ?_
        refine thenE_norm (h10 _ _ ?_); clear h10; try clear K10
        refine CW.region ?_
        refine r_move rfl ?_
        refine r_add rfl rfl rfl (wr_i64 (by omega) (by omega)) ?_
        refine r_assign rfl ?_
        refine LW.nil ?_
        refine thenE_norm ⟨rfl, ?_⟩
        first
          | exact ⟨_, by omega, i + 1, j + 1, ys.set i x, rfl, by omega, by omega, rfl, by rw [List.length_set]; exact hyl, by rw [V.take_set (by omega), V.take_snoc hxx, List.filter_append, htk]; simp [hc3], by rw [V.drop_set (by omega)]; exact hdr2, (SH.sel H [0] (by decide) (by rfl))⟩
          | exact ⟨_, by omega, i, j + 1, ys, rfl, by omega, by omega, rfl, hyl, by rw [V.take_snoc hxx, List.filter_append, htk]; simp [hc3], hdr2, (SH.sel H [0] (by decide) (by rfl))⟩
      · try simp only [decide_eq_true_eq, decide_eq_false_iff_not, Bool.and_eq_true, Bool.or_eq_true, Bool.and_eq_false_iff, Bool.or_eq_false_iff, Bool.not_eq_true', Bool.not_eq_false', beq_iff_eq, bne_iff_ne, ne_eq, Decidable.not_not] at hc3
        refine CW.skip ?_
        refine blockE_norm ?_
        refine thenE_norm (h10 _ _ ?_); clear h10; try clear K10
        refine CW.region ?_
        refine r_move rfl ?_
        refine r_add rfl rfl rfl (wr_i64 (by omega) (by omega)) ?_
        refine r_assign rfl ?_
        refine LW.nil ?_
        refine thenE_norm ⟨rfl, ?_⟩
        first
          | exact ⟨_, by omega, i + 1, j + 1, ys.set i x, rfl, by omega, by omega, rfl, by rw [List.length_set]; exact hyl, by rw [V.take_set (by omega), V.take_snoc hxx, List.filter_append, htk]; simp [hc3], by rw [V.drop_set (by omega)]; exact hdr2, (SH.sel H [0] (by decide) (by rfl))⟩
          | exact ⟨_, by omega, i, j + 1, ys, rfl, by omega, by omega, rfl, hyl, by rw [V.take_snoc hxx, List.filter_append, htk]; simp [hc3], hdr2, (SH.sel H [0] (by decide) (by rfl))⟩
    · try simp only [decide_eq_true_eq, decide_eq_false_iff_not, Bool.and_eq_true, Bool.or_eq_true, Bool.and_eq_false_iff, Bool.or_eq_false_iff, Bool.not_eq_true', Bool.not_eq_false', beq_iff_eq, bne_iff_ne, ne_eq, Decidable.not_not] at hc2
      refine CW.exit (thenE_exit (thenE_exit (blockE_hit ?_)))
      refine thenE_norm (h6 _ _ ?_); clear h6; try clear K6
      refine CW.seq (fun K14 h14 => ?_)
      obtain rfl : j = xs.length := by omega
      rw [List.take_length] at htk
      have hones := (SH.ow H At.here).2
      obtain ⟨b, cap, cur, rfl, rfl, hnc, hcm, hcl, hct, -, H⟩ := SH.toB H At.here (by rintro rfl; simp at hyl; omega)
      dsimp only [replC, List.append_nil, List.nil_append] at H
      have hc63 : cap ≤ 9223372036854775807 := by simpa [maxLen] using hcm
      have hs1 : i * Row.sz Int + (xs.length - i) * Row.sz Int = xs.length * Row.sz Int := by rw [← Nat.add_mul]; congr 1; omega
      have hs2 : xs.length * Row.sz Int ≤ cap * Row.sz Int := Nat.mul_le_mul_right _ (by omega)
      refine CW.region ?_
      refine r_move rfl ?_
      refine r_move rfl ?_
      refine r_sliceLp rfl Try.underlying22 Try.sizeOf3 rfl rfl (by omega) (by omega) (by omega) ?_
      refine s_clearB H Try.underlying22 Try.zeroValue3 rfl rfl rfl rfl (by omega) (by (repeat first | exact At.here | apply At.there); done) (by show i * Row.sz Int + (ys.length - i) * Row.sz Int ≤ _; rw [hyl, hcl]; omega) ?_
      clear H
      intro w6 zs hzs H
      try dsimp only [replC, List.append_nil, List.nil_append] at H
      refine LW.nil ?_
      refine thenE_norm ?_
      refine cut (K := K14) [0, 5] (fun σ => ?_)
      simp only [setL, keepE, upd_get, ev, Nat.reduceEqDiff, ↓reduceIte]
      refine h14 _ _ ?_; clear h14; try clear K14
      refine CW.seq (fun K15 h15 => ?_)
      refine CW.region ?_
      refine r_move rfl ?_
      refine r_move rfl ?_
      refine r_sliceHc rfl Try.underlying22 Try.sizeOf3 rfl rfl (by omega) (by omega) ?_
      refine r_assign rfl ?_
      refine LW.nil ?_
      refine thenE_norm (h15 _ _ ?_); clear h15; try clear K15
      refine CW.ret (ret1 Try.results54 (by simp only [upd_get, ev, Nat.reduceEqDiff, ↓reduceIte]; rfl) ?_)
      have hzl : zs.length = (xs.length - i) * Row.sz Int := by rw [hzs]; show (ys.length - i) * Row.sz Int = _; rw [hyl]
      have hout := SH.ofB (cap := cap) H At.here (xs.filter fun x => !p x) i (by rw [← htk, List.length_take]; omega) (by rw [← htk]; exact hones.take i) (by
        erw [splice_len (by show i * Row.sz Int + zs.length ≤ _; rw [hzl, hcl]; omega)]
        exact hcl) (by omega) hcm (by
        refine (splice_front (by rw [hcl]; omega)).trans ?_
        rw [← htk, flat_take, ← hct, List.take_take, Nat.min_eq_left (by rw [hyl]; omega)])
      exact ⟨_, rfl, hout⟩
end Go.Proofs.Ytaggdlbjgjagbaa
