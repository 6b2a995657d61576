/-
  The walks of layer 6's functions, the third part: Insert.
-/
import Derived.Test.YtcmnhneigojpoaaVSsB
import Derived.Test.YtcmnhneigojpoaaVIns
namespace Go.Proofs.Ytcmnhneigojpoaa
set_option linter.unusedSimpArgs false
set_option linter.unusedVariables false
set_option maxRecDepth 20000
open Go.V Go.RowKit Go.ChangeShapes Go.WideShapes
set_option maxRecDepth 20000 in
set_option maxHeartbeats 2000000 in
theorem InsS_c {v yv : Value} {xs : List Ses} {y : Ses} {g gy : Option Nat} (i : Nat) (w : World) (hv : Ow 52 w v xs g) (hy : Ow 52 w yv [y] gy) (hap : ∀ b, gy = some b → g ≠ some b) (hi : i ≤ xs.length) (hn : xs.length ≤ 1000000) :
    Calls Try.prog 47 #[v, .int .i64 i, yv] w fun e w' => ∃ v' g', e = .returned v' ∧ SH (fun b => g = some b) Non w w' [.O 52 v' (xs.take i ++ [y] ++ xs.drop i) g'] := by
  have h63 := hv.rs.len63
  have hyr := hy.rs
  have hyo := hy.2
  have hy1 : ([y] : List Ses).length = 1 := rfl
  have H := SH.anyG (SH.own1 hv)
  obtain ⟨bv, capv, cury, rfl, rfl, hncv, hcmv, hclv, hctv, -, Hy⟩ := SH.toB (SH.own1 hy) At.here (by simp)
  replace H := SH.argI (A := fun u => Blk u bv 52 cury) (F := fun k => k = bv) H (Hy.blk At.here) Ch.stB (fun b hb => by cases hb; exact Blk.lt (Hy.blk At.here)) (fun b hb h => hap b (by rw [hb]) h)
  have hfly : flat [y] = Row.cells y := by simp [flat]
  have hsrcY : ∀ u, Blk u bv 52 cury → Src Try.prog (Row.sz Ses) u (.slice (some ⟨bv, 0, none⟩) 1 capv) 1 (Row.cells y) := fun u hb =>
    Src.cells (by have := Cells.part (o := 0) hb.cellsAll (1 * Row.sz Ses); rw [List.drop_zero] at this; rw [← hfly, ← hctv]; exact this) (by rw [Row.len, Nat.one_mul]) (fun u hu => by have := hyo y (by simp); rw [List.all_eq_true] at this; exact this u hu)
  refine calls_of_CW Try.func47 rfl Try.ntmps47 (Nat.le_of_ble_eq_true rfl) ?_
  simp only [argE, argFrom, Nat.reduceAdd]
  refine CW.seq (fun K1 h1 => ?_)
  refine CW.region ?_
  refine r_assign rfl ?_
  refine LW.nil ?_
  refine thenE_norm (h1 _ _ ?_); clear h1; try clear K1
  refine CW.seq (fun K2 h2 => ?_)
  refine CW.region ?_
  refine r_move rfl ?_
  refine r_move rfl ?_
  refine r_sliceLV rfl Try.underlying48 (by simp only [upd_get, ev, Nat.reduceEqDiff, ↓reduceIte] <;> rfl) rfl (by first | assumption | exact SH.rsR H (by (repeat first | exact At.here | apply At.there); done) | exact SH.rsO H (by (repeat first | exact At.here | apply At.there); done) | exact Rs.toH (by first | assumption | exact SH.rsR H (by (repeat first | exact At.here | apply At.there); done) | exact SH.rsO H (by (repeat first | exact At.here | apply At.there); done)) (by omega) | exact Rs.toL (by first | assumption | exact SH.rsR H (by (repeat first | exact At.here | apply At.there); done) | exact SH.rsO H (by (repeat first | exact At.here | apply At.there); done)) (by omega) | exact Rs.toLH (by first | assumption | exact SH.rsR H (by (repeat first | exact At.here | apply At.there); done) | exact SH.rsO H (by (repeat first | exact At.here | apply At.there); done)) (by omega) (by omega) | exact (Rs.nil : Rs Non _ _ _)) (by exact Try.sizeOf52) (by omega) (by omega) ?_
  refine LW.nil ?_
  refine thenE_norm (h2 _ _ ?_); clear h2; try clear K2
  refine CW.seq (fun K3 h3 => ?_)
  refine CW.region ?_
  refine r_move rfl ?_
  refine r_lenW rfl Try.underlying48 (by simp only [upd_get, ev, Nat.reduceEqDiff, ↓reduceIte] <;> rfl) hyr ?_
  refine r_assign rfl ?_
  refine LW.nil ?_
  refine thenE_norm (h3 _ _ ?_); clear h3; try clear K3
  refine CW.seq (fun K4 h4 => ?_)
  refine CW.seq (fun K5 h5 => ?_)
  refine CW.region ?_
  refine r_move rfl ?_
  refine r_eql rfl rfl rfl ?_
  refine LW.nil ?_
  refine thenE_norm ?_
  refine cut (K := K5) [0, 1, 2, 7, 16] (fun σ => ?_)
  simp only [setL, keepE, upd_get, ev, Nat.reduceEqDiff, ↓reduceIte]
  refine h5 _ _ ?_; clear h5; try clear K5
  refine CW.condF rfl (by simp) ?_
  refine CW.skip ?_
  refine thenE_norm (h4 _ _ ?_); clear h4; try clear K4
  refine CW.seq (fun K6 h6 => ?_)
  refine CW.region ?_
  refine r_move rfl ?_
  first
    | refine r_lenV rfl Try.underlying48 (by simp only [upd_get, ev, Nat.reduceEqDiff, ↓reduceIte] <;> rfl) (by first | assumption | exact SH.rsR H (by (repeat first | exact At.here | apply At.there); done) | exact SH.rsO H (by (repeat first | exact At.here | apply At.there); done) | exact Rs.toH (by first | assumption | exact SH.rsR H (by (repeat first | exact At.here | apply At.there); done) | exact SH.rsO H (by (repeat first | exact At.here | apply At.there); done)) (by omega) | exact Rs.toL (by first | assumption | exact SH.rsR H (by (repeat first | exact At.here | apply At.there); done) | exact SH.rsO H (by (repeat first | exact At.here | apply At.there); done)) (by omega) | exact Rs.toLH (by first | assumption | exact SH.rsR H (by (repeat first | exact At.here | apply At.there); done) | exact SH.rsO H (by (repeat first | exact At.here | apply At.there); done)) (by omega) (by omega) | exact (Rs.nil : Rs Non _ _ _)) ?_
    | refine r_len rfl Try.underlying48 rfl ?_
  refine r_assign rfl ?_
  refine LW.nil ?_
  refine thenE_norm (h6 _ _ ?_); clear h6; try clear K6
  refine CW.seq (fun K7 h7 => ?_)
  refine CW.seq (fun K8 h8 => ?_)
  refine CW.region ?_
  refine r_move rfl ?_
  refine r_move rfl ?_
  refine r_eql rfl rfl rfl ?_
  refine LW.nil ?_
  refine thenE_norm (h8 _ _ ?_); clear h8; try clear K8
  refine CW.cond rfl (fun hc2 => ?_) (fun hc2 => ?_)
  · try simp only [decide_eq_true_eq, decide_eq_false_iff_not, Bool.and_eq_true, Bool.or_eq_true, Bool.and_eq_false_iff, Bool.or_eq_false_iff, Bool.not_eq_true', Bool.not_eq_false', beq_iff_eq, bne_iff_ne, ne_eq, Decidable.not_not] at hc2
    refine CW.seq (fun K9 h9 => ?_)
    refine CW.region ?_
    refine r_move rfl ?_
    refine r_move rfl ?_
    first
      | refine s_append H rfl Try.underlying48 Try.underlying48 Try.type52 rfl (by simp only [upd_get, ev, Nat.reduceEqDiff, ↓reduceIte] <;> rfl) (by simp only [upd_get, ev, Nat.reduceEqDiff, ↓reduceIte] <;> rfl) (by (repeat first | exact At.here | apply At.there); done) (by first | assumption | exact SH.rsR H (by (repeat first | exact At.here | apply At.there); done) | exact SH.rsO H (by (repeat first | exact At.here | apply At.there); done) | exact Rs.toH (by first | assumption | exact SH.rsR H (by (repeat first | exact At.here | apply At.there); done) | exact SH.rsO H (by (repeat first | exact At.here | apply At.there); done)) (by omega) | exact Rs.toL (by first | assumption | exact SH.rsR H (by (repeat first | exact At.here | apply At.there); done) | exact SH.rsO H (by (repeat first | exact At.here | apply At.there); done)) (by omega) | exact Rs.toLH (by first | assumption | exact SH.rsR H (by (repeat first | exact At.here | apply At.there); done) | exact SH.rsO H (by (repeat first | exact At.here | apply At.there); done)) (by omega) (by omega) | exact (Rs.nil : Rs Non _ _ _)) (by rfl) (by rfl) (by first | omega | (simp only [Try.t52, List.length_append, List.length_cons, List.length_nil, List.length_map, maxLen]; omega) | (simp [Try.t52, maxLen]; omega)) (by first | omega | (simp only [Try.t52, List.length_append, List.length_cons, List.length_nil, List.length_map, maxLen]; omega) | (simp [Try.t52, maxLen]; omega)) ?_
      | refine s_appendNil H rfl Try.underlying48 Try.underlying48 Try.type52 rfl rfl (by simp only [upd_get, ev, Nat.reduceEqDiff, ↓reduceIte] <;> rfl) (by first | assumption | exact SH.rsR H (by (repeat first | exact At.here | apply At.there); done) | exact SH.rsO H (by (repeat first | exact At.here | apply At.there); done) | exact Rs.toH (by first | assumption | exact SH.rsR H (by (repeat first | exact At.here | apply At.there); done) | exact SH.rsO H (by (repeat first | exact At.here | apply At.there); done)) (by omega) | exact Rs.toL (by first | assumption | exact SH.rsR H (by (repeat first | exact At.here | apply At.there); done) | exact SH.rsO H (by (repeat first | exact At.here | apply At.there); done)) (by omega) | exact Rs.toLH (by first | assumption | exact SH.rsR H (by (repeat first | exact At.here | apply At.there); done) | exact SH.rsO H (by (repeat first | exact At.here | apply At.there); done)) (by omega) (by omega) | exact (Rs.nil : Rs Non _ _ _)) (by rfl) (by rfl) (by first | omega | (simp only [Try.t52, List.length_append, List.length_cons, List.length_nil, List.length_map, maxLen]; omega) | (simp [Try.t52, maxLen]; omega)) ?_
    clear H
    intro v7_2 w7_2 g7_2 H hN7_2
    try dsimp only [replC, List.cons_append, List.nil_append, List.append_nil, agg, cellsL, Value.cells, List.toList_toArray, List.set_cons_zero, List.set_cons_succ, spliceL, List.take_succ_cons, List.take_zero, List.drop_succ_cons, List.drop_zero, List.length_cons, List.length_nil, Nat.reduceAdd, Row.cells, Ses.L] at H
    refine r_assign rfl ?_
    refine LW.nil ?_
    refine thenE_norm ?_
    refine cut (K := K9) [6] (fun σ => ?_)
    simp only [setL, keepE, upd_get, ev, Nat.reduceEqDiff, ↓reduceIte]
    refine h9 _ _ ?_; clear h9; try clear K9
    refine CW.ret (thenE_ret (ret1 Try.results47 (by simp only [upd_get, ev, Nat.reduceEqDiff, ↓reduceIte]; rfl) ?_))
    obtain rfl : i = xs.length := by omega
    rw [List.take_length, List.drop_length, List.append_nil]
    exact ⟨_, _, rfl, SH.give H (by repeat first | exact List.Sublist.refl _ | exact List.nil_sublist _ | apply List.Sublist.cons_cons | apply List.Sublist.cons) ⟨trivial, trivial⟩⟩
  · try simp only [decide_eq_true_eq, decide_eq_false_iff_not, Bool.and_eq_true, Bool.or_eq_true, Bool.and_eq_false_iff, Bool.or_eq_false_iff, Bool.not_eq_true', Bool.not_eq_false', beq_iff_eq, bne_iff_ne, ne_eq, Decidable.not_not] at hc2
    refine CW.skip ?_
    refine thenE_norm (h7 _ _ ?_); clear h7; try clear K7
    refine CW.seq (fun K10 h10 => ?_)
    refine CW.seq (fun K11 h11 => ?_)
    have hil : i < xs.length := by omega
    obtain ⟨b, cap, cur, rfl, rfl, hnc, hcm, hcl, hct, hone, H⟩ := H.toB At.here (by rintro rfl; simp at hil)
    try dsimp only [replC, List.append_nil, List.cons_append, List.nil_append] at H
    have hc63 : cap ≤ 9223372036854775807 := by simpa [maxLen] using hcm
    have hfl := flat_len xs
    have hs0 : i * Row.sz Ses + (xs.length - i) * Row.sz Ses = xs.length * Row.sz Ses := by rw [← Nat.add_mul]; congr 1; omega
    have hs1 : xs.length * Row.sz Ses ≤ cap * Row.sz Ses := Nat.mul_le_mul_right _ hnc
    have hyl : (Row.cells y).length = Row.sz Ses := Row.len y
    have hdl : (flat (xs.drop i)).length = (xs.length - i) * Row.sz Ses := by rw [flat_len, List.length_drop]
    have hdo : ∀ u ∈ flat (xs.drop i), oneC u = true := (hone.drop i).flat
    have hneb : bv ≠ b := fun e => hap bv rfl (by rw [e])
    have hcti : cur.take (i * Row.sz Ses) = flat (xs.take i) := by rw [flat_take, ← hct, List.take_take, Nat.min_eq_left (by omega)]
    refine CW.region ?_
    refine r_move rfl ?_
    refine r_move rfl ?_
    refine r_add rfl rfl rfl (wr_i64 (by omega) (by omega)) ?_
    refine r_move rfl ?_
    refine r_cap rfl Try.underlying48 rfl ?_
    refine r_gtr rfl rfl rfl ?_
    refine LW.nil ?_
    refine thenE_norm ?_
    refine cut (K := K11) [0, 1, 2, 7, 8, 31] (fun σ => ?_)
    simp only [setL, keepE, upd_get, ev, Nat.reduceEqDiff, ↓reduceIte]
    refine h11 _ _ ?_; clear h11; try clear K11
    refine CW.cond rfl (fun hc3 => ?_) (fun hc3 => ?_)
    · try simp only [decide_eq_true_eq, decide_eq_false_iff_not, Bool.and_eq_true, Bool.or_eq_true, Bool.and_eq_false_iff, Bool.or_eq_false_iff, Bool.not_eq_true', Bool.not_eq_false', beq_iff_eq, bne_iff_ne, ne_eq, Decidable.not_not] at hc3
      refine CW.seq (fun K12 h12 => ?_)
      refine CW.region ?_
      refine r_move rfl ?_
      refine r_move rfl ?_
      refine r_sliceHc rfl Try.underlying48 Try.sizeOf52 rfl rfl (by omega) (by omega) ?_
      refine r_move rfl ?_
      refine r_move rfl ?_
      refine r_add rfl rfl rfl (wr_i64 (by omega) (by omega)) ?_
      refine r_move rfl ?_
      refine r_sub rfl rfl rfl (wr_i64 (by omega) (by omega)) ?_
      refine s_growB (s := Row.sz Ses) (p := i) (n := xs.length + 1 - i) (cs := flat (xs.take i)) H rfl Try.underlying48 Try.underlying3 Try.type52 rfl (by rfl) (by rfl) rfl rfl (by simp; omega) (by have := Cells.part (o := 0) (SH.cells H (by (repeat first | exact At.here | apply At.there); done)) (i * Row.sz Ses); rw [List.drop_zero, hcti] at this; exact this) (by rw [flat_len, List.length_take, Nat.min_eq_left hi]) (by simp at *; omega) (by first | omega | (simp only [Try.t52]; omega) | (simp [Try.t52]; omega)) (by simp only [maxLen]; omega) (by omega) rfl ?_
      clear H
      intro b2 w9 cap2 cur2 hnc2 hcm2 hcl2 hct2 H
      try dsimp only [List.append_nil, List.cons_append, List.nil_append] at H
      have hs2 : (xs.length + 1) * Row.sz Ses ≤ cap2 * Row.sz Ses := Nat.mul_le_mul_right _ (by omega)
      refine r_assign rfl ?_
      refine LW.nil ?_
      refine thenE_norm ?_
      refine cut (K := K12) [0, 1, 2, 7, 9] (fun σ => ?_)
      simp only [setL, keepE, upd_get, ev, Nat.reduceEqDiff, ↓reduceIte]
      refine h12 _ _ ?_; clear h12; try clear K12
      refine CW.seq (fun K13 h13 => ?_)
      refine CW.region ?_
      refine r_move rfl ?_
      refine r_move rfl ?_
      refine r_sliceLp rfl Try.underlying48 Try.sizeOf52 rfl rfl (by omega) (by omega) (by omega) ?_
      refine r_move rfl ?_
      refine s_copyB (m := 1) (q := 1) H rfl Try.underlying48 Try.type52 (by rfl) rfl rfl (At.there (At.there At.here)) (hsrcY _ (SH.propI H (i := 1) rfl)).2.2.1 (by omega) (hsrcY _ (SH.propI H (i := 1) rfl)).2.2.2.1 (hsrcY _ (SH.propI H (i := 1) rfl)).2.1 (hsrcY _ (SH.propI H (i := 1) rfl)).1 (by rw [hcl2]; show i * Row.sz Ses + 1 * Row.sz Ses ≤ _; rw [← Nat.add_mul]; exact Nat.mul_le_mul_right _ (by omega)) ?_
      clear H
      intro w10 H
      try dsimp only [replC, List.append_nil, List.cons_append, List.nil_append] at H
      refine LW.nil ?_
      refine thenE_norm (h13 _ _ ?_); clear h13; try clear K13
      refine CW.seq (fun K14 h14 => ?_)
      refine CW.drawP [] [] H (by dsimp only [pickC, nthC] <;> rfl) (by repeat first | exact List.Sublist.refl _ | exact List.nil_sublist _ | apply List.Sublist.cons_cons | apply List.Sublist.cons) (by kernel_rfl) rfl ?_
      clear H
      intro w11d H
      refine DL.take (i := 0) [] rfl (by kernel_rfl) (by kernel_rfl) (by kernel_rfl) (by kernel_rfl) rfl rfl (fun u H => x_move ) (SH.sub H (by repeat first | exact List.Sublist.refl _ | exact List.nil_sublist _ | apply List.Sublist.cons_cons | apply List.Sublist.cons)) ?_
      refine DL.take (i := 1) [] rfl (by kernel_rfl) (by kernel_rfl) (by kernel_rfl) (by kernel_rfl) rfl rfl (fun u H => x_move ) (SH.sub H (by repeat first | exact List.Sublist.refl _ | exact List.nil_sublist _ | apply List.Sublist.cons_cons | apply List.Sublist.cons)) ?_
      refine DL.take (i := 2) [] rfl (by kernel_rfl) (by kernel_rfl) (by kernel_rfl) (by kernel_rfl) rfl rfl (fun u H => x_move ) (SH.sub H (by repeat first | exact List.Sublist.refl _ | exact List.nil_sublist _ | apply List.Sublist.cons_cons | apply List.Sublist.cons)) ?_
      refine DL.take (i := 3) [] rfl (by kernel_rfl) (by kernel_rfl) (by kernel_rfl) (by kernel_rfl) rfl rfl (fun u H => x_add rfl rfl (wr_i64 (by omega) (by omega))) (SH.sub H (by repeat first | exact List.Sublist.refl _ | exact List.nil_sublist _ | apply List.Sublist.cons_cons | apply List.Sublist.cons)) ?_
      refine DL.take (i := 4) [] rfl (by kernel_rfl) (by kernel_rfl) (by kernel_rfl) (by kernel_rfl) rfl rfl (fun u H => x_sliceLp Try.underlying48 Try.sizeOf52 rfl rfl (by simp; omega) (by simp; omega) (by simp; omega)) (SH.sub H (by repeat first | exact List.Sublist.refl _ | exact List.nil_sublist _ | apply List.Sublist.cons_cons | apply List.Sublist.cons)) ?_
      refine DL.take (i := 5) [] rfl (by kernel_rfl) (by kernel_rfl) (by kernel_rfl) (by kernel_rfl) rfl rfl (fun u H => x_move ) (SH.sub H (by repeat first | exact List.Sublist.refl _ | exact List.nil_sublist _ | apply List.Sublist.cons_cons | apply List.Sublist.cons)) ?_
      refine DL.take (i := 6) [] rfl (by kernel_rfl) (by kernel_rfl) (by kernel_rfl) (by kernel_rfl) rfl rfl (fun u H => x_move ) (SH.sub H (by repeat first | exact List.Sublist.refl _ | exact List.nil_sublist _ | apply List.Sublist.cons_cons | apply List.Sublist.cons)) ?_
      refine DL.take (i := 7) [] rfl (by kernel_rfl) (by kernel_rfl) (by kernel_rfl) (by kernel_rfl) rfl rfl (fun u H => x_sliceLc Try.underlying48 Try.sizeOf52 rfl rfl (by omega) (by omega)) (SH.sub H (by repeat first | exact List.Sublist.refl _ | exact List.nil_sublist _ | apply List.Sublist.cons_cons | apply List.Sublist.cons)) ?_
      refine DL.one (i := 8) (by kernel_rfl) rfl rfl ?_
      have hsrc := Blk.tail (P := Try.prog) (H.blk At.here) hct hcl hnc hcm hone.flat hi
      refine s_copyB (m := xs.length - i) (q := xs.length - i) H rfl Try.underlying48 Try.type52 (by rfl) rfl rfl (At.there (At.there At.here)) hsrc.2.2.1 (by simp; omega) hsrc.2.2.2.1 hsrc.2.1 hsrc.1 (by erw [splice_len (by rw [hcl2, hyl]; show i * Row.sz Ses + Row.sz Ses ≤ _; rw [← Nat.succ_mul]; exact Nat.mul_le_mul_right _ (by omega)), hcl2]; show ((i : Int) + ([y].length : Nat)).toNat * Row.sz Ses + _ ≤ _; rw [← Nat.add_mul]; exact Nat.mul_le_mul_right _ (by simp; omega)) ?_
      clear H
      intro w11 H
      try dsimp only [replC, List.append_nil, List.cons_append, List.nil_append] at H
      refine LW.nil (thenE_norm ⟨fun _ => (SH.sub H (by repeat first | exact List.Sublist.refl _ | exact List.nil_sublist _ | apply List.Sublist.cons_cons | apply List.Sublist.cons)), ?_⟩)
      refine DL.done (by kernel_rfl) ?_
      refine thenE_norm ?_
      refine cut (K := K14) [9] (fun σ => ?_)
      simp only [setL, keepE, upd_get, ev, Nat.reduceEqDiff, ↓reduceIte]
      refine h14 _ _ ?_; clear h14; try clear K14
      refine CW.seq (fun K15 h15 => ?_)
      refine CW.region ?_
      refine r_move rfl ?_
      refine r_assign rfl ?_
      refine LW.nil ?_
      refine thenE_norm (h15 _ _ ?_); clear h15; try clear K15
      refine CW.ret (thenE_ret (ret1 Try.results47 (by simp only [upd_get, ev, Nat.reduceEqDiff, ↓reduceIte]; rfl) ?_))
      have hl2 : (i + 1) * Row.sz Ses = i * Row.sz Ses + Row.sz Ses := Nat.succ_mul _ _
      have hl3 : (xs.length + 1) * Row.sz Ses = (i + 1) * Row.sz Ses + (xs.length - i) * Row.sz Ses := by rw [← Nat.add_mul]; congr 1; omega
      have hD : (flat xs).drop (i * Row.sz Ses) = flat (xs.drop i) := (flat_drop _ _).symm
      have hin : i * Row.sz Ses + (Row.cells y).length ≤ cur2.length := by rw [hcl2, hyl]; omega
      have htk : (spliceL (spliceL cur2 (i * Row.sz Ses) (Row.cells y)) ((i + 1) * Row.sz Ses) ((flat xs).drop (i * Row.sz Ses))).take ((xs.length + 1) * Row.sz Ses) = flat (xs.take i ++ [y] ++ xs.drop i) := by
        rw [flat_app, flat_app, hfly, ← hD]
        exact ins_grow (by omega) hct2 (by rw [hyl, hl2]) (by rw [hl3, hD, hdl]) (by rw [hcl2]; exact hs2)
      have hlen : (spliceL (spliceL cur2 (i * Row.sz Ses) (Row.cells y)) ((i + 1) * Row.sz Ses) ((flat xs).drop (i * Row.sz Ses))).length = cap2 * Row.sz Ses := by
        rw [splice_len (by rw [splice_len hin, hD, hdl, hcl2, ← hl3]; exact hs2), splice_len hin, hcl2]
      have e : i + (xs.length + 1 - i) = xs.length + 1 := by omega
      rw [e]
      have hout := SH.ofB (cap := cap2) H (At.there (At.there At.here)) (xs.take i ++ [y] ++ xs.drop i) (xs.length + 1) (by simp; omega) (((hone.take i).app hyo).app (hone.drop i)) hlen (by omega) hcm2 htk
      exact ⟨_, _, rfl, SH.give (SH.sel hout [2] (by decide) rfl) (List.Sublist.refl _) ⟨trivial, trivial⟩⟩
    · try simp only [decide_eq_true_eq, decide_eq_false_iff_not, Bool.and_eq_true, Bool.or_eq_true, Bool.and_eq_false_iff, Bool.or_eq_false_iff, Bool.not_eq_true', Bool.not_eq_false', beq_iff_eq, bne_iff_ne, ne_eq, Decidable.not_not] at hc3
      refine CW.skip ?_
      refine thenE_norm (h10 _ _ ?_); clear h10; try clear K10
      refine CW.seq (fun K16 h16 => ?_)
      refine CW.region ?_
      refine r_move rfl ?_
      refine r_move rfl ?_
      refine r_move rfl ?_
      refine r_add rfl rfl rfl (wr_i64 (by omega) (by omega)) ?_
      refine r_sliceHc rfl Try.underlying48 Try.sizeOf52 rfl rfl (by omega) (by simp at *; omega) ?_
      refine r_assign rfl ?_
      refine LW.nil ?_
      refine thenE_norm (h16 _ _ ?_); clear h16; try clear K16
      refine CW.seq (fun K17 h17 => ?_)
      refine CW.seq (fun K18 h18 => ?_)
      refine CW.region ?_
      refine r_move rfl ?_
      refine r_move rfl ?_
      refine r_move rfl ?_
      refine r_move rfl ?_
      refine r_add rfl rfl rfl (wr_i64 (by omega) (by omega)) ?_
      refine r_sliceLp rfl Try.underlying48 Try.sizeOf52 rfl rfl (by simp; omega) (by simp; omega) (by simp at *; omega) ?_
      refine r_callX rfl rfl (run_overlapsB (tS := 48) (tR := 4) Try.func57 (by kernel_rfl) (by kernel_rfl) (by kernel_rfl) (by kernel_rfl) Try.underlying48 Try.sizeOf52 hneb (SH.propI H (i := 1) rfl) (H.blk At.here) (by rw [hcl]; have := Nat.mul_pos (show 0 < cap by omega) (Nat.le_of_ble_eq_true (Row.pos (α := Ses))); omega)) ?_
      refine r_not rfl rfl ?_
      refine LW.nil ?_
      refine thenE_norm ?_
      refine cut (K := K18) [0, 1, 2, 7, 8, 68] (fun σ => ?_)
      simp only [setL, keepE, upd_get, ev, Nat.reduceEqDiff, ↓reduceIte]
      refine h18 _ _ ?_; clear h18; try clear K18
      refine CW.condT rfl (by first | rfl | (simp only [decide_eq_true_eq, decide_eq_false_iff_not, Bool.and_eq_true, Bool.or_eq_true, Bool.and_eq_false_iff, Bool.or_eq_false_iff, Bool.not_eq_true', Bool.not_eq_false', beq_iff_eq, bne_iff_ne]; omega) | simp_all) ?_
      refine CW.seq (fun K19 h19 => ?_)
      refine CW.drawP [] [] H (by dsimp only [pickC, nthC] <;> rfl) (by repeat first | exact List.Sublist.refl _ | exact List.nil_sublist _ | apply List.Sublist.cons_cons | apply List.Sublist.cons) (by kernel_rfl) rfl ?_
      clear H
      intro w15d H
      refine DL.take (i := 0) [] rfl (by kernel_rfl) (by kernel_rfl) (by kernel_rfl) (by kernel_rfl) rfl rfl (fun u H => x_move ) (SH.sub H (by repeat first | exact List.Sublist.refl _ | exact List.nil_sublist _ | apply List.Sublist.cons_cons | apply List.Sublist.cons)) ?_
      refine DL.take (i := 1) [] rfl (by kernel_rfl) (by kernel_rfl) (by kernel_rfl) (by kernel_rfl) rfl rfl (fun u H => x_move ) (SH.sub H (by repeat first | exact List.Sublist.refl _ | exact List.nil_sublist _ | apply List.Sublist.cons_cons | apply List.Sublist.cons)) ?_
      refine DL.take (i := 2) [] rfl (by kernel_rfl) (by kernel_rfl) (by kernel_rfl) (by kernel_rfl) rfl rfl (fun u H => x_move ) (SH.sub H (by repeat first | exact List.Sublist.refl _ | exact List.nil_sublist _ | apply List.Sublist.cons_cons | apply List.Sublist.cons)) ?_
      refine DL.take (i := 3) [] rfl (by kernel_rfl) (by kernel_rfl) (by kernel_rfl) (by kernel_rfl) rfl rfl (fun u H => x_add rfl rfl (wr_i64 (by omega) (by omega))) (SH.sub H (by repeat first | exact List.Sublist.refl _ | exact List.nil_sublist _ | apply List.Sublist.cons_cons | apply List.Sublist.cons)) ?_
      refine DL.take (i := 4) [] rfl (by kernel_rfl) (by kernel_rfl) (by kernel_rfl) (by kernel_rfl) rfl rfl (fun u H => x_sliceLp Try.underlying48 Try.sizeOf52 rfl rfl (by simp; omega) (by simp; omega) (by simp at *; omega)) (SH.sub H (by repeat first | exact List.Sublist.refl _ | exact List.nil_sublist _ | apply List.Sublist.cons_cons | apply List.Sublist.cons)) ?_
      refine DL.take (i := 5) [] rfl (by kernel_rfl) (by kernel_rfl) (by kernel_rfl) (by kernel_rfl) rfl rfl (fun u H => x_move ) (SH.sub H (by repeat first | exact List.Sublist.refl _ | exact List.nil_sublist _ | apply List.Sublist.cons_cons | apply List.Sublist.cons)) ?_
      refine DL.take (i := 6) [] rfl (by kernel_rfl) (by kernel_rfl) (by kernel_rfl) (by kernel_rfl) rfl rfl (fun u H => x_move ) (SH.sub H (by repeat first | exact List.Sublist.refl _ | exact List.nil_sublist _ | apply List.Sublist.cons_cons | apply List.Sublist.cons)) ?_
      refine DL.take (i := 7) [] rfl (by kernel_rfl) (by kernel_rfl) (by kernel_rfl) (by kernel_rfl) rfl rfl (fun u H => x_sliceLp Try.underlying48 Try.sizeOf52 rfl rfl (by omega) (by simp; omega) (by simp at *; omega)) (SH.sub H (by repeat first | exact List.Sublist.refl _ | exact List.nil_sublist _ | apply List.Sublist.cons_cons | apply List.Sublist.cons)) ?_
      refine DL.one (i := 8) (by kernel_rfl) rfl rfl ?_
      have hpt := Cells.part (o := i * Row.sz Ses) (SH.cells H At.here) ((xs.length - i) * Row.sz Ses)
      rw [show (cur.drop (i * Row.sz Ses)).take ((xs.length - i) * Row.sz Ses) = flat (xs.drop i) from by rw [flat_drop, ← hct, List.drop_take]; congr 1; omega] at hpt
      refine s_copyB (m := xs.length - i) (q := ((xs.length : Int) + ([y].length : Nat)).toNat - (i : Int).toNat) (news := flat (xs.drop i)) H rfl Try.underlying48 Try.type52 (by rfl) rfl rfl At.here (by first | (simp [Builtin.lenOf]; done) | (simp [Builtin.lenOf]; omega) | rfl) (by simp; omega) (run_firstCells_some (P := Try.prog) _ (Row.sz Ses) (xs.length - i) ⟨b, i * Row.sz Ses, none⟩ _ _ (flat (xs.drop i)) hdl (fun j u hj => by rw [addr_add]; exact hpt.get j u hj)) hdo hdl (by rw [hcl]; show (i + 1) * Row.sz Ses + _ ≤ _; rw [← Nat.add_mul]; exact Nat.mul_le_mul_right _ (by simp at *; omega)) ?_
      clear H
      intro w15 H
      try dsimp only [replC, List.append_nil, List.cons_append, List.nil_append] at H
      refine LW.nil (thenE_norm ⟨fun _ => (SH.sub H (by repeat first | exact List.Sublist.refl _ | exact List.nil_sublist _ | apply List.Sublist.cons_cons | apply List.Sublist.cons)), ?_⟩)
      refine DL.done (by kernel_rfl) ?_
      refine thenE_norm ?_
      refine cut (K := K19) [0, 1, 2] (fun σ => ?_)
      simp only [setL, keepE, upd_get, ev, Nat.reduceEqDiff, ↓reduceIte]
      refine h19 _ _ ?_; clear h19; try clear K19
      refine CW.seq (fun K20 h20 => ?_)
      refine CW.region ?_
      refine r_move rfl ?_
      refine r_move rfl ?_
      refine r_sliceLp rfl Try.underlying48 Try.sizeOf52 rfl rfl (by omega) (by simp; omega) (by simp at *; omega) ?_
      refine r_move rfl ?_
      refine s_copyB (m := 1) (q := 1) H rfl Try.underlying48 Try.type52 (by rfl) rfl rfl At.here (hsrcY _ (SH.propI H (i := 1) rfl)).2.2.1 (by simp; omega) (hsrcY _ (SH.propI H (i := 1) rfl)).2.2.2.1 (hsrcY _ (SH.propI H (i := 1) rfl)).2.1 (hsrcY _ (SH.propI H (i := 1) rfl)).1 (by erw [splice_len (by rw [hcl, hdl]; show (i + 1) * Row.sz Ses + _ ≤ _; rw [← Nat.add_mul]; exact Nat.mul_le_mul_right _ (by simp at *; omega)), hcl]; show i * Row.sz Ses + 1 * Row.sz Ses ≤ _; rw [← Nat.add_mul]; exact Nat.mul_le_mul_right _ (by omega)) ?_
      clear H
      intro w16 H
      try dsimp only [replC, List.append_nil, List.cons_append, List.nil_append] at H
      refine LW.nil ?_
      refine thenE_norm (h20 _ _ ?_); clear h20; try clear K20
      refine CW.seq (fun K21 h21 => ?_)
      refine CW.region ?_
      refine r_move rfl ?_
      refine r_assign rfl ?_
      refine LW.nil ?_
      refine thenE_norm (h21 _ _ ?_); clear h21; try clear K21
      refine CW.ret (thenE_ret (ret1 Try.results47 (by simp only [upd_get, ev, Nat.reduceEqDiff, ↓reduceIte]; rfl) ?_))
      have hcap1 : xs.length + 1 ≤ cap := by simp at *; omega
      have hs2 : (xs.length + 1) * Row.sz Ses ≤ cap * Row.sz Ses := Nat.mul_le_mul_right _ hcap1
      have hl2 : (i + 1) * Row.sz Ses = i * Row.sz Ses + Row.sz Ses := Nat.succ_mul _ _
      have hl3 : (xs.length + 1) * Row.sz Ses = (i + 1) * Row.sz Ses + (xs.length - i) * Row.sz Ses := by rw [← Nat.add_mul]; congr 1; omega
      have hin : (i + 1) * Row.sz Ses + (flat (xs.drop i)).length ≤ cur.length := by rw [hcl, hdl, ← hl3]; exact hs2
      have htk : (spliceL (spliceL cur ((i + 1) * Row.sz Ses) (flat (xs.drop i))) (i * Row.sz Ses) (Row.cells y)).take ((xs.length + 1) * Row.sz Ses) = flat (xs.take i ++ [y] ++ xs.drop i) := by
        rw [flat_app, flat_app, hfly]
        exact ins_room (by omega) hcti (by rw [hyl, hl2]) (by rw [hl3, hdl]) (by rw [hcl]; exact hs2)
      have hlen : (spliceL (spliceL cur ((i + 1) * Row.sz Ses) (flat (xs.drop i))) (i * Row.sz Ses) (Row.cells y)).length = cap * Row.sz Ses := by
        rw [splice_len (by rw [splice_len hin, hyl]; omega), splice_len hin, hcl]
      have hout := SH.ofB (cap := cap) H At.here (xs.take i ++ [y] ++ xs.drop i) (xs.length + 1) (by simp; omega) (((hone.take i).app hyo).app (hone.drop i)) hlen hcap1 hcm htk
      exact ⟨_, _, rfl, SH.give (SH.sel hout [0] (by decide) rfl) (List.Sublist.refl _) ⟨trivial, trivial⟩⟩
end Go.Proofs.Ytcmnhneigojpoaa
