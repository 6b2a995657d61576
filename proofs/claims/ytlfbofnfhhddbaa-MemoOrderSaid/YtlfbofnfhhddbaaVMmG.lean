/-
  The walks of layer 9's functions, the sixth part: what is kept; the example.
-/
import Derived.Test.YtlfbofnfhhddbaaVMmF
import Derived.Test.YtlfbofnfhhddbaaVIns
namespace Go.Proofs.Ytlfbofnfhhddbaa
set_option linter.unusedSimpArgs false
set_option linter.unusedVariables false
set_option maxRecDepth 20000
open Go.V Go.RowKit Go.ChangeShapes Go.WideShapes

set_option maxRecDepth 20000 in
set_option maxHeartbeats 2000000 in
theorem InsM_c {v yv : Value} {xs : List Mem} {y : Mem} {g gy : Option Nat} (i : Nat) (w : World) (hv : Ow 80 w v xs g) (hy : Ow 80 w yv [y] gy) (hap : ∀ b, gy = some b → g ≠ some b) (hi : i ≤ xs.length) (hn : xs.length ≤ 1000000) :
    Calls Try.prog 98 #[v, .int .i64 i, yv] w fun e w' => ∃ v' g', e = .returned v' ∧ SH (fun b => g = some b) Non w w' [.O 80 v' (xs.take i ++ [y] ++ xs.drop i) g'] := by
  have h63 := hv.rs.len63
  have hyr := hy.rs
  have hyo := hy.2
  have hy1 : ([y] : List Mem).length = 1 := rfl
  have H := SH.anyG (SH.own1 hv)
  obtain ⟨bv, capv, cury, rfl, rfl, hncv, hcmv, hclv, hctv, -, Hy⟩ := SH.toB (SH.own1 hy) At.here (by simp)
  replace H := SH.argI (A := fun u => Blk u bv 80 cury) (F := fun k => k = bv) H (Hy.blk At.here) Ch.stB (fun b hb => by cases hb; exact Blk.lt (Hy.blk At.here)) (fun b hb h => hap b (by rw [hb]) h)
  have hfly : flat [y] = Row.cells y := by simp [flat]
  have hsrcY : ∀ u, Blk u bv 80 cury → Src Try.prog (Row.sz Mem) u (.slice (some ⟨bv, 0, none⟩) 1 capv) 1 (Row.cells y) := fun u hb =>
    Src.cells (by have := Cells.part (o := 0) hb.cellsAll (1 * Row.sz Mem); rw [List.drop_zero] at this; rw [← hfly, ← hctv]; exact this) (by rw [Row.len, Nat.one_mul]) (fun u hu => by have := hyo y (by simp); rw [List.all_eq_true] at this; exact this u hu)
  refine calls_of_CW Try.func98 rfl Try.ntmps98 (Nat.le_of_ble_eq_true rfl) ?_
  simp only [argE, argFrom, Nat.reduceAdd]
  refine CW.seq (fun K1 h1 => ?_)
  refine CW.region ?_
  refine r_assign rfl ?_
  refine LW.nil ?_
  refine thenE_norm (h1 _ _ ?_); clear h1; try clear K1
  refine CW.seq (fun K2 h2 => ?_)
  refine CW.region ?_
  refine r_move rfl ?_
  refine r_move rfl ?_
  refine r_sliceLV rfl Try.underlying81 (by simp only [upd_get, ev, Nat.reduceEqDiff, ↓reduceIte] <;> rfl) rfl (by first | assumption | exact SH.rsR H (by (repeat first | exact At.here | apply At.there); done) | exact SH.rsO H (by (repeat first | exact At.here | apply At.there); done) | exact Rs.toH (by first | assumption | exact SH.rsR H (by (repeat first | exact At.here | apply At.there); done) | exact SH.rsO H (by (repeat first | exact At.here | apply At.there); done)) (by omega) | exact Rs.toL (by first | assumption | exact SH.rsR H (by (repeat first | exact At.here | apply At.there); done) | exact SH.rsO H (by (repeat first | exact At.here | apply At.there); done)) (by omega) | exact Rs.toLH (by first | assumption | exact SH.rsR H (by (repeat first | exact At.here | apply At.there); done) | exact SH.rsO H (by (repeat first | exact At.here | apply At.there); done)) (by omega) (by omega) | exact (Rs.nil : Rs Non _ _ _)) (by exact Try.sizeOf80) (by omega) (by omega) ?_
  refine LW.nil ?_
  refine thenE_norm (h2 _ _ ?_); clear h2; try clear K2
  refine CW.seq (fun K3 h3 => ?_)
  refine CW.region ?_
  refine r_move rfl ?_
  refine r_lenW rfl Try.underlying81 (by simp only [upd_get, ev, Nat.reduceEqDiff, ↓reduceIte] <;> rfl) hyr ?_
  refine r_assign rfl ?_
  refine LW.nil ?_
  refine thenE_norm (h3 _ _ ?_); clear h3; try clear K3
  refine CW.seq (fun K4 h4 => ?_)
  refine CW.seq (fun K5 h5 => ?_)
  refine CW.region ?_
  refine r_move rfl ?_
  refine r_eql rfl rfl rfl ?_
  refine LW.nil ?_
  refine thenE_norm ?_
  refine cut (K := K5) [0, 1, 2, 7, 16] (fun σ => ?_)
  simp only [setL, keepE, upd_get, ev, Nat.reduceEqDiff, ↓reduceIte]
  refine h5 _ _ ?_; clear h5; try clear K5
  refine CW.condF rfl (by simp) ?_
  refine CW.skip ?_
  refine thenE_norm (h4 _ _ ?_); clear h4; try clear K4
  refine CW.seq (fun K6 h6 => ?_)
  refine CW.region ?_
  refine r_move rfl ?_
  first
    | refine r_lenV rfl Try.underlying81 (by simp only [upd_get, ev, Nat.reduceEqDiff, ↓reduceIte] <;> rfl) (by first | assumption | exact SH.rsR H (by (repeat first | exact At.here | apply At.there); done) | exact SH.rsO H (by (repeat first | exact At.here | apply At.there); done) | exact Rs.toH (by first | assumption | exact SH.rsR H (by (repeat first | exact At.here | apply At.there); done) | exact SH.rsO H (by (repeat first | exact At.here | apply At.there); done)) (by omega) | exact Rs.toL (by first | assumption | exact SH.rsR H (by (repeat first | exact At.here | apply At.there); done) | exact SH.rsO H (by (repeat first | exact At.here | apply At.there); done)) (by omega) | exact Rs.toLH (by first | assumption | exact SH.rsR H (by (repeat first | exact At.here | apply At.there); done) | exact SH.rsO H (by (repeat first | exact At.here | apply At.there); done)) (by omega) (by omega) | exact (Rs.nil : Rs Non _ _ _)) ?_
    | refine r_len rfl Try.underlying81 rfl ?_
  refine r_assign rfl ?_
  refine LW.nil ?_
  refine thenE_norm (h6 _ _ ?_); clear h6; try clear K6
  refine CW.seq (fun K7 h7 => ?_)
  refine CW.seq (fun K8 h8 => ?_)
  refine CW.region ?_
  refine r_move rfl ?_
  refine r_move rfl ?_
  refine r_eql rfl rfl rfl ?_
  refine LW.nil ?_
  refine thenE_norm (h8 _ _ ?_); clear h8; try clear K8
  refine CW.cond rfl (fun hc2 => ?_) (fun hc2 => ?_)
  · try simp only [decide_eq_true_eq, decide_eq_false_iff_not, Bool.and_eq_true, Bool.or_eq_true, Bool.and_eq_false_iff, Bool.or_eq_false_iff, Bool.not_eq_true', Bool.not_eq_false', beq_iff_eq, bne_iff_ne, ne_eq, Decidable.not_not] at hc2
    refine CW.seq (fun K9 h9 => ?_)
    refine CW.region ?_
    refine r_move rfl ?_
    refine r_move rfl ?_
    first
      | refine s_append H rfl Try.underlying81 Try.underlying81 Try.type80 rfl (by simp only [upd_get, ev, Nat.reduceEqDiff, ↓reduceIte] <;> rfl) (by simp only [upd_get, ev, Nat.reduceEqDiff, ↓reduceIte] <;> rfl) (by (repeat first | exact At.here | apply At.there); done) (by first | assumption | exact SH.rsR H (by (repeat first | exact At.here | apply At.there); done) | exact SH.rsO H (by (repeat first | exact At.here | apply At.there); done) | exact Rs.toH (by first | assumption | exact SH.rsR H (by (repeat first | exact At.here | apply At.there); done) | exact SH.rsO H (by (repeat first | exact At.here | apply At.there); done)) (by omega) | exact Rs.toL (by first | assumption | exact SH.rsR H (by (repeat first | exact At.here | apply At.there); done) | exact SH.rsO H (by (repeat first | exact At.here | apply At.there); done)) (by omega) | exact Rs.toLH (by first | assumption | exact SH.rsR H (by (repeat first | exact At.here | apply At.there); done) | exact SH.rsO H (by (repeat first | exact At.here | apply At.there); done)) (by omega) (by omega) | exact (Rs.nil : Rs Non _ _ _)) (by rfl) (by rfl) (by first | omega | (simp only [Try.t80, List.length_append, List.length_cons, List.length_nil, List.length_map, maxLen]; omega) | (simp [Try.t80, maxLen]; omega)) (by first | omega | (simp only [Try.t80, List.length_append, List.length_cons, List.length_nil, List.length_map, maxLen]; omega) | (simp [Try.t80, maxLen]; omega)) ?_
      | refine s_appendNil H rfl Try.underlying81 Try.underlying81 Try.type80 rfl rfl (by simp only [upd_get, ev, Nat.reduceEqDiff, ↓reduceIte] <;> rfl) (by first | assumption | exact SH.rsR H (by (repeat first | exact At.here | apply At.there); done) | exact SH.rsO H (by (repeat first | exact At.here | apply At.there); done) | exact Rs.toH (by first | assumption | exact SH.rsR H (by (repeat first | exact At.here | apply At.there); done) | exact SH.rsO H (by (repeat first | exact At.here | apply At.there); done)) (by omega) | exact Rs.toL (by first | assumption | exact SH.rsR H (by (repeat first | exact At.here | apply At.there); done) | exact SH.rsO H (by (repeat first | exact At.here | apply At.there); done)) (by omega) | exact Rs.toLH (by first | assumption | exact SH.rsR H (by (repeat first | exact At.here | apply At.there); done) | exact SH.rsO H (by (repeat first | exact At.here | apply At.there); done)) (by omega) (by omega) | exact (Rs.nil : Rs Non _ _ _)) (by rfl) (by rfl) (by first | omega | (simp only [Try.t80, List.length_append, List.length_cons, List.length_nil, List.length_map, maxLen]; omega) | (simp [Try.t80, maxLen]; omega)) ?_
    clear H
    intro v7_2 w7_2 g7_2 H hN7_2
    try dsimp only [replC, List.cons_append, List.nil_append, List.append_nil] at H
    refine r_assign rfl ?_
    refine LW.nil ?_
    refine thenE_norm ?_
    refine cut (K := K9) [6] (fun σ => ?_)
    simp only [setL, keepE, upd_get, ev, Nat.reduceEqDiff, ↓reduceIte]
    refine h9 _ _ ?_; clear h9; try clear K9
    refine CW.ret (thenE_ret (ret1 Try.results98 (by simp only [upd_get, ev, Nat.reduceEqDiff, ↓reduceIte]; rfl) ?_))
    obtain rfl : i = xs.length := by omega
    rw [List.take_length, List.drop_length, List.append_nil]
    exact ⟨_, _, rfl, SH.give H (by repeat first | exact List.Sublist.refl _ | exact List.nil_sublist _ | apply List.Sublist.cons_cons | apply List.Sublist.cons) ⟨trivial, trivial⟩⟩
  · try simp only [decide_eq_true_eq, decide_eq_false_iff_not, Bool.and_eq_true, Bool.or_eq_true, Bool.and_eq_false_iff, Bool.or_eq_false_iff, Bool.not_eq_true', Bool.not_eq_false', beq_iff_eq, bne_iff_ne, ne_eq, Decidable.not_not] at hc2
    refine CW.skip ?_
    refine thenE_norm (h7 _ _ ?_); clear h7; try clear K7
    refine CW.seq (fun K10 h10 => ?_)
    refine CW.seq (fun K11 h11 => ?_)
    have hil : i < xs.length := by omega
    obtain ⟨b, cap, cur, rfl, rfl, hnc, hcm, hcl, hct, hone, H⟩ := H.toB At.here (by rintro rfl; simp at hil)
    try dsimp only [replC, List.append_nil, List.cons_append, List.nil_append] at H
    have hc63 : cap ≤ 9223372036854775807 := by simpa [maxLen] using hcm
    have hfl := flat_len xs
    have hs0 : i * Row.sz Mem + (xs.length - i) * Row.sz Mem = xs.length * Row.sz Mem := by rw [← Nat.add_mul]; congr 1; omega
    have hs1 : xs.length * Row.sz Mem ≤ cap * Row.sz Mem := Nat.mul_le_mul_right _ hnc
    have hyl : (Row.cells y).length = Row.sz Mem := Row.len y
    have hdl : (flat (xs.drop i)).length = (xs.length - i) * Row.sz Mem := by rw [flat_len, List.length_drop]
    have hdo : ∀ u ∈ flat (xs.drop i), oneC u = true := (hone.drop i).flat
    have hneb : bv ≠ b := fun e => hap bv rfl (by rw [e])
    have hcti : cur.take (i * Row.sz Mem) = flat (xs.take i) := by rw [flat_take, ← hct, List.take_take, Nat.min_eq_left (by omega)]
    refine CW.region ?_
    refine r_move rfl ?_
    refine r_move rfl ?_
    refine r_add rfl rfl rfl (wr_i64 (by omega) (by omega)) ?_
    refine r_move rfl ?_
    refine r_cap rfl Try.underlying81 rfl ?_
    refine r_gtr rfl rfl rfl ?_
    refine LW.nil ?_
    refine thenE_norm ?_
    refine cut (K := K11) [0, 1, 2, 7, 8, 31] (fun σ => ?_)
    simp only [setL, keepE, upd_get, ev, Nat.reduceEqDiff, ↓reduceIte]
    refine h11 _ _ ?_; clear h11; try clear K11
    refine CW.cond rfl (fun hc3 => ?_) (fun hc3 => ?_)
    · try simp only [decide_eq_true_eq, decide_eq_false_iff_not, Bool.and_eq_true, Bool.or_eq_true, Bool.and_eq_false_iff, Bool.or_eq_false_iff, Bool.not_eq_true', Bool.not_eq_false', beq_iff_eq, bne_iff_ne, ne_eq, Decidable.not_not] at hc3
      refine CW.seq (fun K12 h12 => ?_)
      refine CW.region ?_
      refine r_move rfl ?_
      refine r_move rfl ?_
      refine r_sliceHc rfl Try.underlying81 Try.sizeOf80 rfl rfl (by omega) (by omega) ?_
      refine r_move rfl ?_
      refine r_move rfl ?_
      refine r_add rfl rfl rfl (wr_i64 (by omega) (by omega)) ?_
      refine r_move rfl ?_
      refine r_sub rfl rfl rfl (wr_i64 (by omega) (by omega)) ?_
      refine s_growB (s := Row.sz Mem) (p := i) (n := xs.length + 1 - i) (cs := flat (xs.take i)) H rfl Try.underlying81 Try.underlying3 Try.type80 rfl (by rfl) (by rfl) rfl rfl (by simp; omega) (by have := Cells.part (o := 0) (SH.cells H (by (repeat first | exact At.here | apply At.there); done)) (i * Row.sz Mem); rw [List.drop_zero, hcti] at this; exact this) (by rw [flat_len, List.length_take, Nat.min_eq_left hi]) (by simp at *; omega) (by first | omega | (simp only [Try.t80]; omega) | (simp [Try.t80]; omega)) (by simp only [maxLen]; omega) (by omega) rfl ?_
      clear H
      intro b2 w9 cap2 cur2 hnc2 hcm2 hcl2 hct2 H
      try dsimp only [List.append_nil, List.cons_append, List.nil_append] at H
      have hs2 : (xs.length + 1) * Row.sz Mem ≤ cap2 * Row.sz Mem := Nat.mul_le_mul_right _ (by omega)
      refine r_assign rfl ?_
      refine LW.nil ?_
      refine thenE_norm ?_
      refine cut (K := K12) [0, 1, 2, 7, 9] (fun σ => ?_)
      simp only [setL, keepE, upd_get, ev, Nat.reduceEqDiff, ↓reduceIte]
      refine h12 _ _ ?_; clear h12; try clear K12
      refine CW.seq (fun K13 h13 => ?_)
      refine CW.region ?_
      refine r_move rfl ?_
      refine r_move rfl ?_
      refine r_sliceLp rfl Try.underlying81 Try.sizeOf80 rfl rfl (by omega) (by omega) (by omega) ?_
      refine r_move rfl ?_
      refine s_copyB (m := 1) (q := 1) H rfl Try.underlying81 Try.type80 (by rfl) rfl rfl (At.there (At.there At.here)) (hsrcY _ (SH.propI H (i := 1) rfl)).2.2.1 (by omega) (hsrcY _ (SH.propI H (i := 1) rfl)).2.2.2.1 (hsrcY _ (SH.propI H (i := 1) rfl)).2.1 (hsrcY _ (SH.propI H (i := 1) rfl)).1 (by rw [hcl2]; show i * Row.sz Mem + 1 * Row.sz Mem ≤ _; rw [← Nat.add_mul]; exact Nat.mul_le_mul_right _ (by omega)) ?_
      clear H
      intro w10 H
      try dsimp only [replC, List.append_nil, List.cons_append, List.nil_append] at H
      refine LW.nil ?_
      refine thenE_norm (h13 _ _ ?_); clear h13; try clear K13
      refine CW.seq (fun K14 h14 => ?_)
      refine CW.drawP [] [] H (by dsimp only [pickC, nthC] <;> rfl) (by repeat first | exact List.Sublist.refl _ | exact List.nil_sublist _ | apply List.Sublist.cons_cons | apply List.Sublist.cons) (by kernel_rfl) rfl ?_
      clear H
      intro w11d H
      refine DL.take (i := 0) [] rfl (by kernel_rfl) (by kernel_rfl) (by kernel_rfl) (by kernel_rfl) rfl rfl (fun u H => x_move ) (SH.sub H (by repeat first | exact List.Sublist.refl _ | exact List.nil_sublist _ | apply List.Sublist.cons_cons | apply List.Sublist.cons)) ?_
      refine DL.take (i := 1) [] rfl (by kernel_rfl) (by kernel_rfl) (by kernel_rfl) (by kernel_rfl) rfl rfl (fun u H => x_move ) (SH.sub H (by repeat first | exact List.Sublist.refl _ | exact List.nil_sublist _ | apply List.Sublist.cons_cons | apply List.Sublist.cons)) ?_
      refine DL.take (i := 2) [] rfl (by kernel_rfl) (by kernel_rfl) (by kernel_rfl) (by kernel_rfl) rfl rfl (fun u H => x_move ) (SH.sub H (by repeat first | exact List.Sublist.refl _ | exact List.nil_sublist _ | apply List.Sublist.cons_cons | apply List.Sublist.cons)) ?_
      refine DL.take (i := 3) [] rfl (by kernel_rfl) (by kernel_rfl) (by kernel_rfl) (by kernel_rfl) rfl rfl (fun u H => x_add rfl rfl (wr_i64 (by omega) (by omega))) (SH.sub H (by repeat first | exact List.Sublist.refl _ | exact List.nil_sublist _ | apply List.Sublist.cons_cons | apply List.Sublist.cons)) ?_
      refine DL.take (i := 4) [] rfl (by kernel_rfl) (by kernel_rfl) (by kernel_rfl) (by kernel_rfl) rfl rfl (fun u H => x_sliceLp Try.underlying81 Try.sizeOf80 rfl rfl (by simp; omega) (by simp; omega) (by simp; omega)) (SH.sub H (by repeat first | exact List.Sublist.refl _ | exact List.nil_sublist _ | apply List.Sublist.cons_cons | apply List.Sublist.cons)) ?_
      refine DL.take (i := 5) [] rfl (by kernel_rfl) (by kernel_rfl) (by kernel_rfl) (by kernel_rfl) rfl rfl (fun u H => x_move ) (SH.sub H (by repeat first | exact List.Sublist.refl _ | exact List.nil_sublist _ | apply List.Sublist.cons_cons | apply List.Sublist.cons)) ?_
      refine DL.take (i := 6) [] rfl (by kernel_rfl) (by kernel_rfl) (by kernel_rfl) (by kernel_rfl) rfl rfl (fun u H => x_move ) (SH.sub H (by repeat first | exact List.Sublist.refl _ | exact List.nil_sublist _ | apply List.Sublist.cons_cons | apply List.Sublist.cons)) ?_
      refine DL.take (i := 7) [] rfl (by kernel_rfl) (by kernel_rfl) (by kernel_rfl) (by kernel_rfl) rfl rfl (fun u H => x_sliceLc Try.underlying81 Try.sizeOf80 rfl rfl (by omega) (by omega)) (SH.sub H (by repeat first | exact List.Sublist.refl _ | exact List.nil_sublist _ | apply List.Sublist.cons_cons | apply List.Sublist.cons)) ?_
      refine DL.one (i := 8) (by kernel_rfl) rfl rfl ?_
      have hsrc := Blk.tail (P := Try.prog) (H.blk At.here) hct hcl hnc hcm hone.flat hi
      refine s_copyB (m := xs.length - i) (q := xs.length - i) H rfl Try.underlying81 Try.type80 (by rfl) rfl rfl (At.there (At.there At.here)) hsrc.2.2.1 (by simp; omega) hsrc.2.2.2.1 hsrc.2.1 hsrc.1 (by erw [splice_len (by rw [hcl2, hyl]; show i * Row.sz Mem + Row.sz Mem ≤ _; rw [← Nat.succ_mul]; exact Nat.mul_le_mul_right _ (by omega)), hcl2]; show ((i : Int) + ([y].length : Nat)).toNat * Row.sz Mem + _ ≤ _; rw [← Nat.add_mul]; exact Nat.mul_le_mul_right _ (by simp; omega)) ?_
      clear H
      intro w11 H
      try dsimp only [replC, List.append_nil, List.cons_append, List.nil_append] at H
      refine LW.nil (thenE_norm ⟨fun _ => (SH.sub H (by repeat first | exact List.Sublist.refl _ | exact List.nil_sublist _ | apply List.Sublist.cons_cons | apply List.Sublist.cons)), ?_⟩)
      refine DL.done (by kernel_rfl) ?_
      refine thenE_norm ?_
      refine cut (K := K14) [9] (fun σ => ?_)
      simp only [setL, keepE, upd_get, ev, Nat.reduceEqDiff, ↓reduceIte]
      refine h14 _ _ ?_; clear h14; try clear K14
      refine CW.seq (fun K15 h15 => ?_)
      refine CW.region ?_
      refine r_move rfl ?_
      refine r_assign rfl ?_
      refine LW.nil ?_
      refine thenE_norm (h15 _ _ ?_); clear h15; try clear K15
      refine CW.ret (thenE_ret (ret1 Try.results98 (by simp only [upd_get, ev, Nat.reduceEqDiff, ↓reduceIte]; rfl) ?_))
      have hl2 : (i + 1) * Row.sz Mem = i * Row.sz Mem + Row.sz Mem := Nat.succ_mul _ _
      have hl3 : (xs.length + 1) * Row.sz Mem = (i + 1) * Row.sz Mem + (xs.length - i) * Row.sz Mem := by rw [← Nat.add_mul]; congr 1; omega
      have hD : (flat xs).drop (i * Row.sz Mem) = flat (xs.drop i) := (flat_drop _ _).symm
      have hin : i * Row.sz Mem + (Row.cells y).length ≤ cur2.length := by rw [hcl2, hyl]; omega
      have htk : (spliceL (spliceL cur2 (i * Row.sz Mem) (Row.cells y)) ((i + 1) * Row.sz Mem) ((flat xs).drop (i * Row.sz Mem))).take ((xs.length + 1) * Row.sz Mem) = flat (xs.take i ++ [y] ++ xs.drop i) := by
        rw [flat_app, flat_app, hfly, ← hD]
        exact ins_grow (by omega) hct2 (by rw [hyl, hl2]) (by rw [hl3, hD, hdl]) (by rw [hcl2]; exact hs2)
      have hlen : (spliceL (spliceL cur2 (i * Row.sz Mem) (Row.cells y)) ((i + 1) * Row.sz Mem) ((flat xs).drop (i * Row.sz Mem))).length = cap2 * Row.sz Mem := by
        rw [splice_len (by rw [splice_len hin, hD, hdl, hcl2, ← hl3]; exact hs2), splice_len hin, hcl2]
      have e : i + (xs.length + 1 - i) = xs.length + 1 := by omega
      rw [e]
      have hout := SH.ofB (cap := cap2) H (At.there (At.there At.here)) (xs.take i ++ [y] ++ xs.drop i) (xs.length + 1) (by simp; omega) (((hone.take i).app hyo).app (hone.drop i)) hlen (by omega) hcm2 htk
      exact ⟨_, _, rfl, SH.give (SH.sel hout [2] (by decide) rfl) (List.Sublist.refl _) ⟨trivial, trivial⟩⟩
    · try simp only [decide_eq_true_eq, decide_eq_false_iff_not, Bool.and_eq_true, Bool.or_eq_true, Bool.and_eq_false_iff, Bool.or_eq_false_iff, Bool.not_eq_true', Bool.not_eq_false', beq_iff_eq, bne_iff_ne, ne_eq, Decidable.not_not] at hc3
      refine CW.skip ?_
      refine thenE_norm (h10 _ _ ?_); clear h10; try clear K10
      refine CW.seq (fun K16 h16 => ?_)
      refine CW.region ?_
      refine r_move rfl ?_
      refine r_move rfl ?_
      refine r_move rfl ?_
      refine r_add rfl rfl rfl (wr_i64 (by omega) (by omega)) ?_
      refine r_sliceHc rfl Try.underlying81 Try.sizeOf80 rfl rfl (by omega) (by simp at *; omega) ?_
      refine r_assign rfl ?_
      refine LW.nil ?_
      refine thenE_norm (h16 _ _ ?_); clear h16; try clear K16
      refine CW.seq (fun K17 h17 => ?_)
      refine CW.seq (fun K18 h18 => ?_)
      refine CW.region ?_
      refine r_move rfl ?_
      refine r_move rfl ?_
      refine r_move rfl ?_
      refine r_move rfl ?_
      refine r_add rfl rfl rfl (wr_i64 (by omega) (by omega)) ?_
      refine r_sliceLp rfl Try.underlying81 Try.sizeOf80 rfl rfl (by simp; omega) (by simp; omega) (by simp at *; omega) ?_
      refine r_callX rfl rfl (run_overlapsB (tS := 81) (tR := 4) Try.func112 (by kernel_rfl) (by kernel_rfl) (by kernel_rfl) (by kernel_rfl) Try.underlying81 Try.sizeOf80 hneb (SH.propI H (i := 1) rfl) (H.blk At.here) (by rw [hcl]; have := Nat.mul_pos (show 0 < cap by omega) (Nat.le_of_ble_eq_true (Row.pos (α := Mem))); omega)) ?_
      refine r_not rfl rfl ?_
      refine LW.nil ?_
      refine thenE_norm ?_
      refine cut (K := K18) [0, 1, 2, 7, 8, 68] (fun σ => ?_)
      simp only [setL, keepE, upd_get, ev, Nat.reduceEqDiff, ↓reduceIte]
      refine h18 _ _ ?_; clear h18; try clear K18
      refine CW.condT rfl (by first | rfl | (simp only [decide_eq_true_eq, decide_eq_false_iff_not, Bool.and_eq_true, Bool.or_eq_true, Bool.and_eq_false_iff, Bool.or_eq_false_iff, Bool.not_eq_true', Bool.not_eq_false', beq_iff_eq, bne_iff_ne]; omega) | simp_all) ?_
      refine CW.seq (fun K19 h19 => ?_)
      refine CW.drawP [] [] H (by dsimp only [pickC, nthC] <;> rfl) (by repeat first | exact List.Sublist.refl _ | exact List.nil_sublist _ | apply List.Sublist.cons_cons | apply List.Sublist.cons) (by kernel_rfl) rfl ?_
      clear H
      intro w15d H
      refine DL.take (i := 0) [] rfl (by kernel_rfl) (by kernel_rfl) (by kernel_rfl) (by kernel_rfl) rfl rfl (fun u H => x_move ) (SH.sub H (by repeat first | exact List.Sublist.refl _ | exact List.nil_sublist _ | apply List.Sublist.cons_cons | apply List.Sublist.cons)) ?_
      refine DL.take (i := 1) [] rfl (by kernel_rfl) (by kernel_rfl) (by kernel_rfl) (by kernel_rfl) rfl rfl (fun u H => x_move ) (SH.sub H (by repeat first | exact List.Sublist.refl _ | exact List.nil_sublist _ | apply List.Sublist.cons_cons | apply List.Sublist.cons)) ?_
      refine DL.take (i := 2) [] rfl (by kernel_rfl) (by kernel_rfl) (by kernel_rfl) (by kernel_rfl) rfl rfl (fun u H => x_move ) (SH.sub H (by repeat first | exact List.Sublist.refl _ | exact List.nil_sublist _ | apply List.Sublist.cons_cons | apply List.Sublist.cons)) ?_
      refine DL.take (i := 3) [] rfl (by kernel_rfl) (by kernel_rfl) (by kernel_rfl) (by kernel_rfl) rfl rfl (fun u H => x_add rfl rfl (wr_i64 (by omega) (by omega))) (SH.sub H (by repeat first | exact List.Sublist.refl _ | exact List.nil_sublist _ | apply List.Sublist.cons_cons | apply List.Sublist.cons)) ?_
      refine DL.take (i := 4) [] rfl (by kernel_rfl) (by kernel_rfl) (by kernel_rfl) (by kernel_rfl) rfl rfl (fun u H => x_sliceLp Try.underlying81 Try.sizeOf80 rfl rfl (by simp; omega) (by simp; omega) (by simp at *; omega)) (SH.sub H (by repeat first | exact List.Sublist.refl _ | exact List.nil_sublist _ | apply List.Sublist.cons_cons | apply List.Sublist.cons)) ?_
      refine DL.take (i := 5) [] rfl (by kernel_rfl) (by kernel_rfl) (by kernel_rfl) (by kernel_rfl) rfl rfl (fun u H => x_move ) (SH.sub H (by repeat first | exact List.Sublist.refl _ | exact List.nil_sublist _ | apply List.Sublist.cons_cons | apply List.Sublist.cons)) ?_
      refine DL.take (i := 6) [] rfl (by kernel_rfl) (by kernel_rfl) (by kernel_rfl) (by kernel_rfl) rfl rfl (fun u H => x_move ) (SH.sub H (by repeat first | exact List.Sublist.refl _ | exact List.nil_sublist _ | apply List.Sublist.cons_cons | apply List.Sublist.cons)) ?_
      refine DL.take (i := 7) [] rfl (by kernel_rfl) (by kernel_rfl) (by kernel_rfl) (by kernel_rfl) rfl rfl (fun u H => x_sliceLp Try.underlying81 Try.sizeOf80 rfl rfl (by omega) (by simp; omega) (by simp at *; omega)) (SH.sub H (by repeat first | exact List.Sublist.refl _ | exact List.nil_sublist _ | apply List.Sublist.cons_cons | apply List.Sublist.cons)) ?_
      refine DL.one (i := 8) (by kernel_rfl) rfl rfl ?_
      have hpt := Cells.part (o := i * Row.sz Mem) (SH.cells H At.here) ((xs.length - i) * Row.sz Mem)
      rw [show (cur.drop (i * Row.sz Mem)).take ((xs.length - i) * Row.sz Mem) = flat (xs.drop i) from by rw [flat_drop, ← hct, List.drop_take]; congr 1; omega] at hpt
      refine s_copyB (m := xs.length - i) (q := ((xs.length : Int) + ([y].length : Nat)).toNat - (i : Int).toNat) (news := flat (xs.drop i)) H rfl Try.underlying81 Try.type80 (by rfl) rfl rfl At.here (by first | (simp [Builtin.lenOf]; done) | (simp [Builtin.lenOf]; omega) | rfl) (by simp; omega) (run_firstCells_some (P := Try.prog) _ (Row.sz Mem) (xs.length - i) ⟨b, i * Row.sz Mem, none⟩ _ _ (flat (xs.drop i)) hdl (fun j u hj => by rw [addr_add]; exact hpt.get j u hj)) hdo hdl (by rw [hcl]; show (i + 1) * Row.sz Mem + _ ≤ _; rw [← Nat.add_mul]; exact Nat.mul_le_mul_right _ (by simp at *; omega)) ?_
      clear H
      intro w15 H
      try dsimp only [replC, List.append_nil, List.cons_append, List.nil_append] at H
      refine LW.nil (thenE_norm ⟨fun _ => (SH.sub H (by repeat first | exact List.Sublist.refl _ | exact List.nil_sublist _ | apply List.Sublist.cons_cons | apply List.Sublist.cons)), ?_⟩)
      refine DL.done (by kernel_rfl) ?_
      refine thenE_norm ?_
      refine cut (K := K19) [0, 1, 2] (fun σ => ?_)
      simp only [setL, keepE, upd_get, ev, Nat.reduceEqDiff, ↓reduceIte]
      refine h19 _ _ ?_; clear h19; try clear K19
      refine CW.seq (fun K20 h20 => ?_)
      refine CW.region ?_
      refine r_move rfl ?_
      refine r_move rfl ?_
      refine r_sliceLp rfl Try.underlying81 Try.sizeOf80 rfl rfl (by omega) (by simp; omega) (by simp at *; omega) ?_
      refine r_move rfl ?_
      refine s_copyB (m := 1) (q := 1) H rfl Try.underlying81 Try.type80 (by rfl) rfl rfl At.here (hsrcY _ (SH.propI H (i := 1) rfl)).2.2.1 (by simp; omega) (hsrcY _ (SH.propI H (i := 1) rfl)).2.2.2.1 (hsrcY _ (SH.propI H (i := 1) rfl)).2.1 (hsrcY _ (SH.propI H (i := 1) rfl)).1 (by erw [splice_len (by rw [hcl, hdl]; show (i + 1) * Row.sz Mem + _ ≤ _; rw [← Nat.add_mul]; exact Nat.mul_le_mul_right _ (by simp at *; omega)), hcl]; show i * Row.sz Mem + 1 * Row.sz Mem ≤ _; rw [← Nat.add_mul]; exact Nat.mul_le_mul_right _ (by omega)) ?_
      clear H
      intro w16 H
      try dsimp only [replC, List.append_nil, List.cons_append, List.nil_append] at H
      refine LW.nil ?_
      refine thenE_norm (h20 _ _ ?_); clear h20; try clear K20
      refine CW.seq (fun K21 h21 => ?_)
      refine CW.region ?_
      refine r_move rfl ?_
      refine r_assign rfl ?_
      refine LW.nil ?_
      refine thenE_norm (h21 _ _ ?_); clear h21; try clear K21
      refine CW.ret (thenE_ret (ret1 Try.results98 (by simp only [upd_get, ev, Nat.reduceEqDiff, ↓reduceIte]; rfl) ?_))
      have hcap1 : xs.length + 1 ≤ cap := by simp at *; omega
      have hs2 : (xs.length + 1) * Row.sz Mem ≤ cap * Row.sz Mem := Nat.mul_le_mul_right _ hcap1
      have hl2 : (i + 1) * Row.sz Mem = i * Row.sz Mem + Row.sz Mem := Nat.succ_mul _ _
      have hl3 : (xs.length + 1) * Row.sz Mem = (i + 1) * Row.sz Mem + (xs.length - i) * Row.sz Mem := by rw [← Nat.add_mul]; congr 1; omega
      have hin : (i + 1) * Row.sz Mem + (flat (xs.drop i)).length ≤ cur.length := by rw [hcl, hdl, ← hl3]; exact hs2
      have htk : (spliceL (spliceL cur ((i + 1) * Row.sz Mem) (flat (xs.drop i))) (i * Row.sz Mem) (Row.cells y)).take ((xs.length + 1) * Row.sz Mem) = flat (xs.take i ++ [y] ++ xs.drop i) := by
        rw [flat_app, flat_app, hfly]
        exact ins_room (by omega) hcti (by rw [hyl, hl2]) (by rw [hl3, hdl]) (by rw [hcl]; exact hs2)
      have hlen : (spliceL (spliceL cur ((i + 1) * Row.sz Mem) (flat (xs.drop i))) (i * Row.sz Mem) (Row.cells y)).length = cap * Row.sz Mem := by
        rw [splice_len (by rw [splice_len hin, hyl]; omega), splice_len hin, hcl]
      have hout := SH.ofB (cap := cap) H At.here (xs.take i ++ [y] ++ xs.drop i) (xs.length + 1) (by simp; omega) (((hone.take i).app hyo).app (hone.drop i)) hlen hcap1 hcm htk
      exact ⟨_, _, rfl, SH.give (SH.sel hout [0] (by decide) rfl) (List.Sublist.refl _) ⟨trivial, trivial⟩⟩
set_option maxHeartbeats 8000000 in
theorem Keep_c {F K K2 : Nat → Prop} {v : Value} {raws : List Mem} {ms : List Mm} (a : Ans) {gs : List Gr} (w : World) (hv : Rs F w v raws) (hm : MmsA K raws ms w) (ha : Rs K2 w a.reply.held gs) (hn : raws.length ≤ 1000000) (hr : rightN ms = true) (hsg : smallG gs) :
    Calls Try.prog 63 #[v, agg a] w fun e w' => ∃ (v' : Value) (raws' : List Mem) (g : Option Nat) (F' : Nat → Prop), e = .returned v' ∧ SH Non Non w w' [.O 80 v' raws' g, .P F' (MmsA F' raws' (keepN ms (mmA a gs)))] := by
  obtain ⟨a1, a2, ⟨a3, a4, a5, a6⟩⟩ := a
  have ho6 : oneC a6 = true := Rs.oneC ha
  have H := (SH.start w).arg hv
  have h63 := hv.len63
  have l1 := All2.len hm
  have hup := all2_up mmr_key hm (right_up hr)
  have hsh := right_short hr
  dsimp only at ha
  refine calls_of_CW Try.func63 rfl Try.ntmps63 (Nat.le_of_ble_eq_true rfl) ?_
  simp only [argE, argFrom, Nat.reduceAdd]
  refine CW.seq (fun K1 h1 => ?_)
  refine CW.region ?_
  refine s_box H rfl (by simp only [upd_get, ev, Nat.reduceEqDiff, ↓reduceIte] <;> rfl) rfl ?_
  clear H
  intro b0_0 w0_0 H
  try dsimp only [replC, List.cons_append, List.nil_append, List.append_nil, agg, cellsL, Value.cells, List.toList_toArray, List.set_cons_zero, List.set_cons_succ, spliceL, List.take_succ_cons, List.take_zero, List.drop_succ_cons, List.drop_zero, List.length_cons, List.length_nil, Nat.reduceAdd, Row.cells, Gr.L, Rep.L, Mem.L, Ans.L] at H
  refine r_assign rfl ?_
  refine LW.nil ?_
  refine thenE_norm (h1 _ _ ?_); clear h1; try clear K1
  refine CW.seq (fun K2 h2 => ?_)
  refine CW.region ?_
  refine r_move rfl ?_
  refine r_call rfl Try.call95 (by simp only [List.map_cons, List.map_nil, List.map_toArray, List.toList_toArray, upd_get, ev, Nat.reduceEqDiff, ↓reduceIte] <;> rfl) (copied_c _ (by first | assumption | exact SH.rsR H (by (repeat first | exact At.here | apply At.there); done) | exact SH.rsO H (by (repeat first | exact At.here | apply At.there); done) | exact (Rs.nil : Rs Non _ _ _)) (hm.up0 (SH.ext H)) (by first | omega | (simp only [List.length_append, List.length_cons, List.length_nil]; omega) | (simp; omega)) hsh) ?_
  rintro _ w1_1 ⟨v1_1, raws1_1, g1_1, F1_1, rfl, K⟩
  refine ⟨_, rfl, ?_⟩
  replace H := SH.call H K
  clear K
  try dsimp only [replC, List.cons_append, List.nil_append, List.append_nil] at H
  have hm1 : MmsA F1_1 raws1_1 ms w1_1 := SH.prop H (i := 3) rfl
  have l2 := All2.len hm1
  have hup1 := all2_up mmr_key hm1 (right_up hr)
  refine r_assign rfl ?_
  refine LW.nil ?_
  refine thenE_norm (h2 _ _ ?_); clear h2; try clear K2
  refine CW.seq (fun K3 h3 => ?_)
  refine CW.seq (fun K4 h4 => ?_)
  refine CW.region ?_
  refine r_loadA rfl Try.isAgg66 Try.sizeOf66 rfl (by first | exact SH.cells H (by (repeat first | exact At.here | apply At.there); done)) (by rfl) ?_
  refine r_call rfl Try.call46 (by simp only [List.map_cons, List.map_nil, List.map_toArray, List.toList_toArray, upd_get, ev, Nat.reduceEqDiff, ↓reduceIte] <;> rfl) (MayAns_c ⟨_, _, ⟨_, _, _, _⟩⟩ _ (ha.up0 (SH.ext H)) hsg) ?_
  rintro _ w2_1 ⟨rfl, X⟩
  refine ⟨_, rfl, ?_⟩
  replace H := SH.same H X
  clear X
  refine r_not rfl rfl ?_
  refine r_move rfl ?_
  refine LW.splitB (t := 14) rfl (fun hg2_4 => ?_) (fun hg2_4 => ?_)
  · have hg2_4P := hg2_4
    try simp only [decide_eq_true_eq, decide_eq_false_iff_not, Bool.and_eq_true, Bool.or_eq_true, Bool.and_eq_false_iff, Bool.or_eq_false_iff, Bool.not_eq_true', Bool.not_eq_false', beq_iff_eq, bne_iff_ne] at hg2_4P
    refine LW.skip rfl (fun _ e => by cases e; decide) rfl hg2_4 ?_
    refine LW.skip rfl (fun _ e => by cases e; decide) rfl hg2_4 ?_
    refine LW.skip rfl (fun _ e => by cases e; decide) rfl hg2_4 ?_
    refine LW.skip rfl (fun _ e => by cases e; decide) rfl hg2_4 ?_
    refine LW.skip rfl (fun _ e => by cases e; decide) rfl hg2_4 ?_
    refine LW.skip rfl (fun _ e => by cases e; decide) rfl hg2_4 ?_
    refine LW.skip rfl (fun _ e => by cases e; decide) rfl hg2_4 ?_
    refine r_pickT rfl rfl hg2_4 ?_
    refine LW.nil ?_
    refine thenE_norm ?_
    refine cut (K := K4) [3, 5, 22] (fun σ => ?_)
    simp only [setL, keepE, upd_get, ev, Nat.reduceEqDiff, ↓reduceIte]
    refine h4 _ _ ?_; clear h4; try clear K4
    refine CW.condT rfl (by first | rfl | (simp only [decide_eq_true_eq, decide_eq_false_iff_not, Bool.and_eq_true, Bool.or_eq_true, Bool.and_eq_false_iff, Bool.or_eq_false_iff, Bool.not_eq_true', Bool.not_eq_false', beq_iff_eq, bne_iff_ne]; omega) | simp_all) ?_
    refine CW.seq (fun K5 h5 => ?_)
    refine CW.region ?_
    refine r_move rfl ?_
    refine r_assign rfl ?_
    refine LW.nil ?_
    refine thenE_norm (h5 _ _ ?_); clear h5; try clear K5
    refine CW.ret (thenE_ret (ret1 Try.results63 (by simp only [upd_get, ev, Nat.reduceEqDiff, ↓reduceIte]; rfl) ?_))
    rw [keepN, if_neg (fun h => Bool.false_ne_true (hg2_4P.symm.trans (show mayAns a1 a2 a3 a4 a5 gs = true from h.1)))]
    exact ⟨_, _, _, _, rfl, (SH.give (SH.sel H [2, 3] (by decide) rfl) (List.Sublist.refl _) (by repeat first | exact trivial | refine ⟨trivial, ?_⟩))⟩
  · have hg2_4P := hg2_4
    try simp only [decide_eq_true_eq, decide_eq_false_iff_not, Bool.and_eq_true, Bool.or_eq_true, Bool.and_eq_false_iff, Bool.or_eq_false_iff, Bool.not_eq_true', Bool.not_eq_false', beq_iff_eq, bne_iff_ne] at hg2_4P
    refine LW.want rfl rfl hg2_4 ?_
    refine r_move rfl ?_
    refine LW.want rfl rfl hg2_4 ?_
    refine r_fieldAddrO rfl Try.underlying66 rfl Try.sizeOf3 (by decide) (show _ = 0 from rfl) rfl ?_
    refine LW.want rfl rfl hg2_4 ?_
    refine r_load rfl Try.isAgg3 rfl (by first | exact SH.cellB H (by (repeat first | exact At.here | apply At.there); done) (by rfl) | assumption) ?_
    refine LW.want rfl rfl hg2_4 ?_
    refine r_fieldAddrO rfl Try.underlying66 rfl Try.sizeOf3 (by decide) (show _ = 1 from rfl) rfl ?_
    refine LW.want rfl rfl hg2_4 ?_
    refine r_load rfl Try.isAgg3 rfl (by first | exact SH.cellB H (by (repeat first | exact At.here | apply At.there); done) (by rfl) | assumption) ?_
    refine LW.want rfl rfl hg2_4 ?_
    refine r_call rfl Try.call66 (by simp only [List.map_cons, List.map_nil, List.map_toArray, List.toList_toArray, upd_get, ev, Nat.reduceEqDiff, ↓reduceIte] <;> rfl) (FreshM_c _ _ _ (SH.rsR H At.here) (by first | omega | (simp only [List.length_append, List.length_cons, List.length_nil]; omega) | (simp; omega)) hup) ?_
    rintro _ w2_9 ⟨rfl, X⟩
    refine ⟨_, rfl, ?_⟩
    replace H := SH.same H X
    clear X
    refine LW.want rfl rfl hg2_4 ?_
    refine r_neq rfl rfl rfl ?_
    refine r_pickF rfl rfl hg2_4 ?_
    refine LW.nil ?_
    refine thenE_norm ?_
    refine cut (K := K4) [3, 5, 22] (fun σ => ?_)
    simp only [setL, keepE, upd_get, ev, Nat.reduceEqDiff, ↓reduceIte]
    refine h4 _ _ ?_; clear h4; try clear K4
    refine CW.cond rfl (fun hc1 => ?_) (fun hc1 => ?_)
    · try simp only [decide_eq_true_eq, decide_eq_false_iff_not, Bool.and_eq_true, Bool.or_eq_true, Bool.and_eq_false_iff, Bool.or_eq_false_iff, Bool.not_eq_true', Bool.not_eq_false', beq_iff_eq, bne_iff_ne, ne_eq, Decidable.not_not] at hc1
      refine CW.seq (fun K6 h6 => ?_)
      refine CW.region ?_
      refine r_move rfl ?_
      refine r_assign rfl ?_
      refine LW.nil ?_
      refine thenE_norm (h6 _ _ ?_); clear h6; try clear K6
      refine CW.ret (thenE_ret (ret1 Try.results63 (by simp only [upd_get, ev, Nat.reduceEqDiff, ↓reduceIte]; rfl) ?_))
      rw [keepN, if_neg (fun h => hc1 (by rw [fresh_raw hm]; exact h.2))]
      exact ⟨_, _, _, _, rfl, (SH.give (SH.sel H [2, 3] (by decide) rfl) (List.Sublist.refl _) (by repeat first | exact trivial | refine ⟨trivial, ?_⟩))⟩
    · try simp only [decide_eq_true_eq, decide_eq_false_iff_not, Bool.and_eq_true, Bool.or_eq_true, Bool.and_eq_false_iff, Bool.or_eq_false_iff, Bool.not_eq_true', Bool.not_eq_false', beq_iff_eq, bne_iff_ne, ne_eq, Decidable.not_not] at hc1
      refine CW.skip ?_
      refine thenE_norm (h3 _ _ ?_); clear h3; try clear K3
      refine CW.seq (fun K7 h7 => ?_)
      have hkeep : keepN ms (mmA ⟨a1, a2, ⟨a3, a4, a5, a6⟩⟩ gs) = putK Mm.client ms (mmA ⟨a1, a2, ⟨a3, a4, a5, a6⟩⟩ gs) := by
        rw [keepN, if_pos ⟨hg2_4P, by rw [fresh_raw hm] at hc1; exact hc1⟩]
      have hgl : gs.length ≤ 4 := (may_len (m := mmA ⟨a1, a2, ⟨a3, a4, a5, a6⟩⟩ gs) hg2_4P).1
      have hat := atK_le Mem.client raws1_1 a1
      refine CW.region ?_
      refine r_fieldAddrO rfl Try.underlying66 rfl Try.sizeOf3 (by decide) (show _ = 0 from rfl) rfl ?_
      refine r_load rfl Try.isAgg3 rfl (by first | exact SH.cellB H (by (repeat first | exact At.here | apply At.there); done) (by rfl) | assumption) ?_
      refine r_fieldAddrO rfl Try.underlying66 rfl Try.sizeOf3 (by decide) (show _ = 1 from rfl) rfl ?_
      refine r_load rfl Try.isAgg3 rfl (by first | exact SH.cellB H (by (repeat first | exact At.here | apply At.there); done) (by rfl) | assumption) ?_
      refine r_fieldAddrO rfl Try.underlying66 rfl Try.sizeOf50 (by decide) (show _ = 2 from rfl) rfl ?_
      refine r_loadA rfl Try.isAgg50 Try.sizeOf50 rfl (by first | exact SH.partOf (n := 4) H (by (repeat first | exact At.here | apply At.there); done) (by simp only [Row.cells, List.drop_succ_cons, List.drop_zero, List.take_succ_cons, List.take_zero, Gr.L, Rep.L, Mem.L, Ans.L] <;> rfl) | exact SH.cells H (by (repeat first | exact At.here | apply At.there); done)) (by rfl) ?_
      refine r_buildQ rfl Try.underlying80 Try.zeroValue80 rfl (pl := [(0, 1), (1, 1), (2, 4)]) (by intro w; simp [go_sem]) (qs := [(0, [_]), (1, [_]), (2, [_, _, _, _])]) (cs := [_, _, _, _, _, _]) ⟨rfl, cells_one (by simp only [upd_get, ev, Nat.reduceEqDiff, ↓reduceIte] <;> rfl) (by first | rfl | exact Rs.oneC (by first | assumption | exact SH.rsR H (by (repeat first | exact At.here | apply At.there); done) | exact SH.rsO H (by (repeat first | exact At.here | apply At.there); done) | exact (Rs.nil : Rs Non _ _ _))), rfl, cells_one (by simp only [upd_get, ev, Nat.reduceEqDiff, ↓reduceIte] <;> rfl) (by first | rfl | exact Rs.oneC (by first | assumption | exact SH.rsR H (by (repeat first | exact At.here | apply At.there); done) | exact SH.rsO H (by (repeat first | exact At.here | apply At.there); done) | exact (Rs.nil : Rs Non _ _ _))), rfl, (by simp only [upd_get, ev, Nat.reduceEqDiff, ↓reduceIte, cellsL, agg, List.toList_toArray, Row.cells, Gr.L, Rep.L, Mem.L, Ans.L] <;> rfl), trivial⟩ rfl ?_
      refine s_alloc (cs := [.int .i64 0, .int .i64 0, .int .i64 0, .int .i64 0, .int .i64 0, .slice none 0 0]) H rfl Try.zeroValue80 rfl ?_
      clear H
      intro b4_7 w4_7 H
      try dsimp only [replC, List.cons_append, List.nil_append, List.append_nil, agg, cellsL, Value.cells, List.toList_toArray, List.set_cons_zero, List.set_cons_succ, spliceL, List.take_succ_cons, List.take_zero, List.drop_succ_cons, List.drop_zero, List.length_cons, List.length_nil, Nat.reduceAdd, Row.cells, Gr.L, Rep.L, Mem.L, Ans.L] at H
      refine s_storeA H Try.sizeOf80 rfl (by simp only [upd_get, ev, Nat.reduceEqDiff, ↓reduceIte] <;> rfl) (by simp only [cellsL, agg, List.toList_toArray, Row.cells, Gr.L, Rep.L, Mem.L, Ans.L] <;> rfl) (by rfl) (by first | rfl | assumption | exact Rs.oneC (by first | assumption | exact SH.rsR H (by (repeat first | exact At.here | apply At.there); done) | exact SH.rsO H (by (repeat first | exact At.here | apply At.there); done) | exact (Rs.nil : Rs Non _ _ _)) | (simp only [List.all_cons, List.all_nil, Bool.and_true, Bool.and_eq_true, Row.cells, Gr.L, Rep.L, Mem.L, Ans.L]; (repeat' constructor) <;> first | rfl | assumption | exact Rs.oneC (by first | assumption | exact SH.rsR H (by (repeat first | exact At.here | apply At.there); done) | exact SH.rsO H (by (repeat first | exact At.here | apply At.there); done) | exact (Rs.nil : Rs Non _ _ _)))) (by (repeat first | exact At.here | apply At.there); done) (by first | (simp; done) | decide | (show _ ≤ _; decide)) ?_
      clear H
      intro w4_8 H
      try dsimp only [replC, List.cons_append, List.nil_append, List.append_nil, agg, cellsL, Value.cells, List.toList_toArray, List.set_cons_zero, List.set_cons_succ, spliceL, List.take_succ_cons, List.take_zero, List.drop_succ_cons, List.drop_zero, List.length_cons, List.length_nil, Nat.reduceAdd, Row.cells, Gr.L, Rep.L, Mem.L, Ans.L] at H
      refine LW.nil ?_
      refine thenE_norm ?_
      refine cut (K := K7) [3, 5, 6] (fun σ => ?_)
      simp only [setL, keepE, upd_get, ev, Nat.reduceEqDiff, ↓reduceIte]
      refine h7 _ _ ?_; clear h7; try clear K7
      refine CW.seq (fun K8 h8 => ?_)
      refine CW.region ?_
      refine r_fieldAddrO rfl Try.underlying80 rfl Try.sizeOf50 (by decide) (show _ = 2 from rfl) rfl ?_
      refine r_fieldAddrO rfl Try.underlying50 rfl Try.sizeOf48 (by decide) (show _ = 5 from rfl) rfl ?_
      refine r_load rfl Try.isAgg48 rfl (by first | exact SH.cellB H (by (repeat first | exact At.here | apply At.there); done) (by rfl) | assumption) ?_
      refine r_call rfl Try.call96 (by simp only [List.map_cons, List.map_nil, List.map_toArray, List.toList_toArray, upd_get, ev, Nat.reduceEqDiff, ↓reduceIte] <;> rfl) (CloneG_c _ (ha.up0 (SH.ext H)) (by first | omega | (simp only [List.length_append, List.length_cons, List.length_nil]; omega) | (simp; omega))) ?_
      rintro _ w5_3 ⟨v5_3, g5_3, rfl, K⟩
      refine ⟨_, rfl, ?_⟩
      replace H := SH.call H K
      clear K
      try dsimp only [replC, List.cons_append, List.nil_append, List.append_nil] at H
      refine r_fieldAddrO rfl Try.underlying80 rfl Try.sizeOf50 (by decide) (show _ = 2 from rfl) rfl ?_
      refine r_fieldAddrO rfl Try.underlying50 rfl Try.sizeOf48 (by decide) (show _ = 5 from rfl) rfl ?_
      refine s_store H Try.sizeOf48 rfl (by simp only [upd_get, ev, Nat.reduceEqDiff, ↓reduceIte] <;> rfl) (by first | rfl | assumption | exact Rs.oneC (by first | assumption | exact SH.rsR H (by (repeat first | exact At.here | apply At.there); done) | exact SH.rsO H (by (repeat first | exact At.here | apply At.there); done) | exact (Rs.nil : Rs Non _ _ _)) | (simp only [List.all_cons, List.all_nil, Bool.and_true, Bool.and_eq_true, Row.cells, Gr.L, Rep.L, Mem.L, Ans.L]; (repeat' constructor) <;> first | rfl | assumption | exact Rs.oneC (by first | assumption | exact SH.rsR H (by (repeat first | exact At.here | apply At.there); done) | exact SH.rsO H (by (repeat first | exact At.here | apply At.there); done) | exact (Rs.nil : Rs Non _ _ _)))) (by (repeat first | exact At.here | apply At.there); done) (by first | (simp; done) | decide | omega) ?_
      clear H
      intro w5_6 H
      try dsimp only [replC, List.cons_append, List.nil_append, List.append_nil, agg, cellsL, Value.cells, List.toList_toArray, List.set_cons_zero, List.set_cons_succ, spliceL, List.take_succ_cons, List.take_zero, List.drop_succ_cons, List.drop_zero, List.length_cons, List.length_nil, Nat.reduceAdd, Row.cells, Gr.L, Rep.L, Mem.L, Ans.L] at H
      refine LW.nil ?_
      refine thenE_norm (h8 _ _ ?_); clear h8; try clear K8
      refine CW.seq (fun K9 h9 => ?_)
      refine CW.region ?_
      refine r_move rfl ?_
      refine r_fieldAddrO rfl Try.underlying66 rfl Try.sizeOf3 (by decide) (show _ = 0 from rfl) rfl ?_
      refine r_load rfl Try.isAgg3 rfl (by first | exact SH.cellB H (by (repeat first | exact At.here | apply At.there); done) (by rfl) | assumption) ?_
      refine r_call rfl Try.call97 (by simp only [List.map_cons, List.map_nil, List.map_toArray, List.toList_toArray, upd_get, ev, Nat.reduceEqDiff, ↓reduceIte] <;> rfl) (placeM_c _ _ (SH.rsO H (i := 2) rfl) (by first | omega | (simp only [List.length_append, List.length_cons, List.length_nil]; omega) | (simp; omega)) hup1) ?_
      rintro _ w6_3 ⟨rfl, X⟩
      refine ⟨_, rfl, ?_⟩
      replace H := SH.same H X
      clear X
      refine r_move rfl ?_
      refine r_extract rfl (by simp only [upd_get, ev, Nat.reduceEqDiff, ↓reduceIte] <;> rfl) (by simp only [List.getElem?_toArray, List.getElem?_cons_zero, List.getElem?_cons_succ] <;> rfl) ?_
      refine r_extract rfl (by simp only [upd_get, ev, Nat.reduceEqDiff, ↓reduceIte] <;> rfl) (by simp only [List.getElem?_toArray, List.getElem?_cons_zero, List.getElem?_cons_succ] <;> rfl) ?_
      refine r_assign rfl ?_
      refine r_assign rfl ?_
      refine LW.nil ?_
      refine thenE_norm ?_
      refine cut (K := K9) [5, 6, 7, 8] (fun σ => ?_)
      simp only [setL, keepE, upd_get, ev, Nat.reduceEqDiff, ↓reduceIte]
      refine h9 _ _ ?_; clear h9; try clear K9
      refine CW.seq (fun K10 h10 => ?_)
      refine CW.seq (fun K11 h11 => ?_)
      rcases findK_place (n := a1) hup1 with ⟨hin, s, hs, hc, hf⟩ | ⟨hin, hf, hno⟩
      · rw [hin]
        have hsl := lt_of_get hs
        refine CW.region ?_
        refine r_move rfl ?_
        refine LW.nil ?_
        refine thenE_norm (h11 _ _ ?_); clear h11; try clear K11
        refine CW.condT rfl (by first | rfl | (simp only [decide_eq_true_eq, decide_eq_false_iff_not, Bool.and_eq_true, Bool.or_eq_true, Bool.and_eq_false_iff, Bool.or_eq_false_iff, Bool.not_eq_true', Bool.not_eq_false', beq_iff_eq, bne_iff_ne]; omega) | simp_all) ?_
        refine CW.seq (fun K12 h12 => ?_)
        refine CW.region ?_
        refine r_move rfl ?_
        refine r_move rfl ?_
        refine r_loadA rfl Try.isAgg80 Try.sizeOf80 rfl (by first | exact SH.cells H (by (repeat first | exact At.here | apply At.there); done)) (by rfl) ?_
        refine r_indexAddrV rfl Try.underlying81 (by simp only [upd_get, ev, Nat.reduceEqDiff, ↓reduceIte] <;> rfl) rfl (by first | assumption | exact SH.rsR H (by (repeat first | exact At.here | apply At.there); done) | exact SH.rsO H (by (repeat first | exact At.here | apply At.there); done) | exact (Rs.nil : Rs Non _ _ _)) (by exact Try.sizeOf80) (by omega) (by omega) ?_
        refine s_storeRA (o := 0) (x1 := (⟨a1, a2, ⟨a3, a4, a5, v5_3⟩⟩ : Mem)) H Try.sizeOf80 rfl (by simp only [upd_get, ev, Nat.reduceEqDiff, ↓reduceIte] <;> rfl) (by simp only [cellsL, agg, List.toList_toArray, Row.cells, Gr.L, Rep.L, Mem.L, Ans.L] <;> rfl) (by rfl) (by first | rfl | assumption | exact Rs.oneC (by first | assumption | exact SH.rsR H (by (repeat first | exact At.here | apply At.there); done) | exact SH.rsO H (by (repeat first | exact At.here | apply At.there); done) | exact (Rs.nil : Rs Non _ _ _)) | (simp only [List.all_cons, List.all_nil, Bool.and_true, Bool.and_eq_true, Row.cells, Gr.L, Rep.L, Mem.L, Ans.L]; (repeat' constructor) <;> first | rfl | assumption | exact Rs.oneC (by first | assumption | exact SH.rsR H (by (repeat first | exact At.here | apply At.there); done) | exact SH.rsO H (by (repeat first | exact At.here | apply At.there); done) | exact (Rs.nil : Rs Non _ _ _)))) (by (repeat first | exact At.here | apply At.there); done) (by assumption) (by rfl) (by rfl) (by rfl) (by first | rfl | assumption | exact Rs.oneC (by first | assumption | exact SH.rsR H (by (repeat first | exact At.here | apply At.there); done) | exact SH.rsO H (by (repeat first | exact At.here | apply At.there); done) | exact (Rs.nil : Rs Non _ _ _)) | (simp only [List.all_cons, List.all_nil, Bool.and_true, Bool.and_eq_true, Row.cells, Gr.L, Rep.L, Mem.L, Ans.L]; (repeat' constructor) <;> first | rfl | assumption | exact Rs.oneC (by first | assumption | exact SH.rsR H (by (repeat first | exact At.here | apply At.there); done) | exact SH.rsO H (by (repeat first | exact At.here | apply At.there); done) | exact (Rs.nil : Rs Non _ _ _)))) ?_
        clear H
        intro w8_4 H
        try dsimp only [replC, List.cons_append, List.nil_append, List.append_nil, agg, cellsL, Value.cells, List.toList_toArray, List.set_cons_zero, List.set_cons_succ, spliceL, List.take_succ_cons, List.take_zero, List.drop_succ_cons, List.drop_zero, List.length_cons, List.length_nil, Nat.reduceAdd, Row.cells, Gr.L, Rep.L, Mem.L, Ans.L] at H
        refine LW.nil ?_
        refine thenE_norm (h12 _ _ ?_); clear h12; try clear K12
        refine CW.seq (fun K13 h13 => ?_)
        refine CW.region ?_
        refine r_move rfl ?_
        refine r_assign rfl ?_
        refine LW.nil ?_
        refine thenE_norm ?_
        refine cut (K := K13) [4] (fun σ => ?_)
        simp only [setL, keepE, upd_get, ev, Nat.reduceEqDiff, ↓reduceIte]
        refine h13 _ _ ?_; clear h13; try clear K13
        refine CW.ret (thenE_ret (ret1 Try.results63 (by simp only [upd_get, ev, Nat.reduceEqDiff, ↓reduceIte]; rfl) ?_))
        have hput : raws1_1.set (atK Mem.client raws1_1 a1) (⟨a1, a2, ⟨a3, a4, a5, v5_3⟩⟩ : Mem) = putK Mem.client raws1_1 ⟨a1, a2, ⟨a3, a4, a5, v5_3⟩⟩ := (putK_in (m := (⟨a1, a2, ⟨a3, a4, a5, v5_3⟩⟩ : Mem)) hup1 hs hc).symm
        have H2 := SH.absorb (A' := MmsA _ (raws1_1.set (atK Mem.client raws1_1 a1) ⟨a1, a2, ⟨a3, a4, a5, v5_3⟩⟩) (keepN ms (mmA ⟨a1, a2, ⟨a3, a4, a5, a6⟩⟩ gs))) (SH.sel H [3, 5, 2] (by decide) rfl) trivial mms_st (fun h k => by
          rw [hkeep, hput]
          exact all2_put mmr_key (MmsA.mono h fun b hb => .inl hb) ⟨rfl, rfl, rfl, rfl, rfl, (Ow.rs k).mono fun b _ hb => .inr hb⟩)
        exact ⟨_, _, _, _, rfl, SH.give (SH.sel H2 [1, 0] (by decide) rfl) (List.Sublist.refl _) ⟨trivial, trivial, trivial⟩⟩
      · rw [hin]
        refine CW.region ?_
        refine r_move rfl ?_
        refine LW.nil ?_
        refine thenE_norm (h11 _ _ ?_); clear h11; try clear K11
        refine CW.condF rfl (by first | rfl | (simp only [decide_eq_true_eq, decide_eq_false_iff_not, Bool.and_eq_true, Bool.or_eq_true, Bool.and_eq_false_iff, Bool.or_eq_false_iff, Bool.not_eq_true', Bool.not_eq_false', beq_iff_eq, bne_iff_ne]; omega) | simp_all) ?_
        refine CW.skip ?_
        refine thenE_norm (h10 _ _ ?_); clear h10; try clear K10
        refine CW.seq (fun K14 h14 => ?_)
        refine CW.region ?_
        refine r_move rfl ?_
        refine r_move rfl ?_
        refine r_loadA rfl Try.isAgg80 Try.sizeOf80 rfl (by first | exact SH.cells H (by (repeat first | exact At.here | apply At.there); done)) (by rfl) ?_
        refine r_buildSliceA (vs := [_]) rfl Try.underlying81 Try.sizeOf80 Try.zeroValue80 rfl rfl rfl rfl (by simp only [List.map_cons, List.map_nil, List.toList_toArray, numbered, Nat.reduceAdd, upd_get, ev, Nat.reduceEqDiff, ↓reduceIte] <;> rfl) rfl (by intro v hv; simp only [List.mem_cons, List.not_mem_nil, or_false] at hv; rcases hv with rfl <;> rfl) ?_
        intro b10_3 w10_3 hb10_3 hs10_3 hE10_3 hB10_3
        replace H := SH.call H (SH.fromB hE10_3 hb10_3 hs10_3 hB10_3)
        clear hb10_3 hs10_3 hE10_3 hB10_3
        try dsimp only [replC, List.cons_append, List.nil_append, List.append_nil, agg, cellsL, Value.cells, List.toList_toArray, List.set_cons_zero, List.set_cons_succ, spliceL, List.take_succ_cons, List.take_zero, List.drop_succ_cons, List.drop_zero, List.length_cons, List.length_nil, Nat.reduceAdd, Row.cells, Gr.L, Rep.L, Mem.L, Ans.L] at H
        replace H := SH.row (b := b10_3) (xs := ([⟨a1, a2, ⟨a3, a4, a5, v5_3⟩⟩] : List Mem)) (n := 1) (cap := 1) H (by (repeat first | exact At.here | apply At.there); done) (by simp only [flat, List.flatMap_cons, List.flatMap_nil, cellsL, agg, List.append_nil, List.cons_append, List.nil_append, List.toList_toArray, Row.cells, Gr.L, Rep.L, Mem.L, Ans.L] <;> rfl) (by intro x hx; first | rfl | (simp at hx; done) | (simp only [List.mem_cons, List.not_mem_nil, or_false] at hx; rcases hx with rfl <;> first | rfl | exact (by first | rfl | assumption | exact Rs.oneC (by first | assumption | exact SH.rsR H (by (repeat first | exact At.here | apply At.there); done) | exact SH.rsO H (by (repeat first | exact At.here | apply At.there); done) | exact (Rs.nil : Rs Non _ _ _)) | (simp only [List.all_cons, List.all_nil, Bool.and_true, Bool.and_eq_true, Row.cells, Gr.L, Rep.L, Mem.L, Ans.L]; (repeat' constructor) <;> first | rfl | assumption | exact Rs.oneC (by first | assumption | exact SH.rsR H (by (repeat first | exact At.here | apply At.there); done) | exact SH.rsO H (by (repeat first | exact At.here | apply At.there); done) | exact (Rs.nil : Rs Non _ _ _)))))) (by rfl) rfl (by decide)
        try dsimp only [replC, List.cons_append, List.nil_append, List.append_nil, agg, cellsL, Value.cells, List.toList_toArray, List.set_cons_zero, List.set_cons_succ, spliceL, List.take_succ_cons, List.take_zero, List.drop_succ_cons, List.drop_zero, List.length_cons, List.length_nil, Nat.reduceAdd, Row.cells, Gr.L, Rep.L, Mem.L, Ans.L] at H
        refine r_call rfl Try.call98 (by simp only [List.map_cons, List.map_nil, List.map_toArray, List.toList_toArray, upd_get, ev, Nat.reduceEqDiff, ↓reduceIte] <;> rfl) (InsM_c (y := ⟨a1, a2, ⟨a3, a4, a5, v5_3⟩⟩) (atK Mem.client raws1_1 a1) _ (SH.ow H (i := 2) rfl) (SH.ow H (i := 6) rfl) (fun b h1 h2 => (SH.val H).apart (i := 2) (j := 6) rfl rfl (by decide) (.inl trivial) b h2 h1) hat (by omega)) ?_
        rintro _ w10_4 ⟨v10_4, g10_4, rfl, K⟩
        refine ⟨_, rfl, ?_⟩
        replace H := SH.updO H (i := 2) rfl K
        clear K
        try dsimp only [replC, List.cons_append, List.nil_append, List.append_nil] at H
        refine r_assign rfl ?_
        refine LW.nil ?_
        refine thenE_norm (h14 _ _ ?_); clear h14; try clear K14
        refine CW.ret (ret1 Try.results63 (by simp only [upd_get, ev, Nat.reduceEqDiff, ↓reduceIte]; rfl) ?_)
        have hput : raws1_1.take (atK Mem.client raws1_1 a1) ++ [(⟨a1, a2, ⟨a3, a4, a5, v5_3⟩⟩ : Mem)] ++ raws1_1.drop (atK Mem.client raws1_1 a1) = putK Mem.client raws1_1 ⟨a1, a2, ⟨a3, a4, a5, v5_3⟩⟩ := (putK_out (m := (⟨a1, a2, ⟨a3, a4, a5, v5_3⟩⟩ : Mem)) hup1 hno).symm
        have H2 := SH.absorb (A' := MmsA _ (raws1_1.take (atK Mem.client raws1_1 a1) ++ [(⟨a1, a2, ⟨a3, a4, a5, v5_3⟩⟩ : Mem)] ++ raws1_1.drop (atK Mem.client raws1_1 a1)) (keepN ms (mmA ⟨a1, a2, ⟨a3, a4, a5, a6⟩⟩ gs))) (SH.sel H [3, 5, 2] (by decide) rfl) trivial mms_st (fun h k => by
          rw [hkeep, hput]
          exact all2_put mmr_key (MmsA.mono h fun b hb => .inl hb) ⟨rfl, rfl, rfl, rfl, rfl, (Ow.rs k).mono fun b _ hb => .inr hb⟩)
        exact ⟨_, _, _, _, rfl, SH.give (SH.sel H2 [1, 0] (by decide) rfl) (List.Sublist.refl _) ⟨trivial, trivial, trivial⟩⟩
set_option maxHeartbeats 4000000 in
theorem awake9_c (w : World) : Calls Try.prog 59 #[] w fun e w' => e = .returned (.bool true) ∧ Ext0 w w' := by
  have H := SH.start (U := Non) (G := Any) w
  refine calls_of_CW Try.func59 rfl Try.ntmps59 (Nat.le_of_ble_eq_true rfl) ?_
  simp only [argE, argFrom, Nat.reduceAdd]
  refine CW.seq (fun K1 h1 => ?_)
  refine CW.region ?_
  refine r_assign rfl ?_
  refine LW.nil ?_
  refine thenE_norm (h1 _ _ ?_); clear h1; try clear K1
  refine CW.seq (fun K2 h2 => ?_)
  refine CW.region ?_
  refine r_buildQ rfl Try.underlying66 Try.zeroValue66 rfl (pl := [(0, 1), (1, 1), (2, 4)]) (by intro w; simp [go_sem]) (qs := [(0, [_]), (1, [_])]) (cs := [_, _, .int .i64 0, .int .i64 0, .int .i64 0, .slice none 0 0]) ⟨rfl, cells_one (by simp only [upd_get, ev, Nat.reduceEqDiff, ↓reduceIte] <;> rfl) (by first | rfl | exact Rs.oneC (by first | assumption | exact SH.rsR H (by (repeat first | exact At.here | apply At.there); done) | exact SH.rsO H (by (repeat first | exact At.here | apply At.there); done) | exact (Rs.nil : Rs Non _ _ _))), rfl, cells_one (by simp only [upd_get, ev, Nat.reduceEqDiff, ↓reduceIte] <;> rfl) (by first | rfl | exact Rs.oneC (by first | assumption | exact SH.rsR H (by (repeat first | exact At.here | apply At.there); done) | exact SH.rsO H (by (repeat first | exact At.here | apply At.there); done) | exact (Rs.nil : Rs Non _ _ _))), trivial⟩ rfl ?_
  refine s_alloc (cs := [.int .i64 0, .int .i64 0, .int .i64 0, .int .i64 0, .int .i64 0, .slice none 0 0]) H rfl Try.zeroValue66 rfl ?_
  clear H
  intro b1_1 w1_1 H
  try dsimp only [replC, List.cons_append, List.nil_append, List.append_nil, agg, cellsL, Value.cells, List.toList_toArray, List.set_cons_zero, List.set_cons_succ, spliceL, List.take_succ_cons, List.take_zero, List.drop_succ_cons, List.drop_zero, List.length_cons, List.length_nil, Nat.reduceAdd, Row.cells, Gr.L, Rep.L, Mem.L, Ans.L] at H
  refine s_storeA H Try.sizeOf66 rfl (by simp only [upd_get, ev, Nat.reduceEqDiff, ↓reduceIte] <;> rfl) (by simp only [cellsL, agg, List.toList_toArray, Row.cells, Gr.L, Rep.L, Mem.L, Ans.L] <;> rfl) (by rfl) (by first | rfl | assumption | exact Rs.oneC (by first | assumption | exact SH.rsR H (by (repeat first | exact At.here | apply At.there); done) | exact SH.rsO H (by (repeat first | exact At.here | apply At.there); done) | exact (Rs.nil : Rs Non _ _ _)) | (simp only [List.all_cons, List.all_nil, Bool.and_true, Bool.and_eq_true, Row.cells, Gr.L, Rep.L, Mem.L, Ans.L]; (repeat' constructor) <;> first | rfl | assumption | exact Rs.oneC (by first | assumption | exact SH.rsR H (by (repeat first | exact At.here | apply At.there); done) | exact SH.rsO H (by (repeat first | exact At.here | apply At.there); done) | exact (Rs.nil : Rs Non _ _ _)))) (by (repeat first | exact At.here | apply At.there); done) (by first | (simp; done) | decide | (show _ ≤ _; decide)) ?_
  clear H
  intro w1_2 H
  try dsimp only [replC, List.cons_append, List.nil_append, List.append_nil, agg, cellsL, Value.cells, List.toList_toArray, List.set_cons_zero, List.set_cons_succ, spliceL, List.take_succ_cons, List.take_zero, List.drop_succ_cons, List.drop_zero, List.length_cons, List.length_nil, Nat.reduceAdd, Row.cells, Gr.L, Rep.L, Mem.L, Ans.L] at H
  refine LW.nil ?_
  refine thenE_norm (h2 _ _ ?_); clear h2; try clear K2
  refine CW.seq (fun K3 h3 => ?_)
  refine CW.region ?_
  refine r_loadA rfl Try.isAgg66 Try.sizeOf66 rfl (by first | exact SH.cells H (by (repeat first | exact At.here | apply At.there); done)) (by rfl) ?_
  refine r_call rfl Try.call63 (by simp only [List.map_cons, List.map_nil, List.map_toArray, List.toList_toArray, upd_get, ev, Nat.reduceEqDiff, ↓reduceIte] <;> rfl) (Keep_c (K := Non) (K2 := Non) (raws := []) (ms := []) (gs := []) ⟨_, _, ⟨_, _, _, _⟩⟩ _ (Rs.nil : Rs Non _ _ _) trivial (Rs.nil : Rs Non _ _ _) (by decide) rfl (fun g h => by cases h)) ?_
  rintro _ w2_1 ⟨v2_1, raws2_1, g2_1, F2_1, rfl, K⟩
  refine ⟨_, rfl, ?_⟩
  replace H := SH.call H K
  clear K
  try dsimp only [replC, List.cons_append, List.nil_append, List.append_nil] at H
  have hk : keepN [] (mmA ⟨3, 2, ⟨0, 0, 0, .slice none 0 0⟩⟩ []) = [⟨3, 2, 0, 0, 0, []⟩] := by decide
  rw [hk] at H
  have hm1 : MmsA F2_1 raws2_1 [⟨3, 2, 0, 0, 0, []⟩] w2_1 := SH.prop H (i := 2) rfl
  have l1 := All2.len hm1
  have hr1 : rightN [⟨3, 2, 0, 0, 0, []⟩] = true := by decide
  have hup1 := all2_up mmr_key hm1 (right_up hr1)
  have hf2 : freshM raws2_1 3 2 = 0 := by rw [fresh_raw hm1]; decide
  have hf1 : freshM raws2_1 3 1 = -1 := by rw [fresh_raw hm1]; decide
  refine r_assign rfl ?_
  refine LW.nil ?_
  refine thenE_norm (h3 _ _ ?_); clear h3; try clear K3
  refine CW.seq (fun K4 h4 => ?_)
  refine CW.region ?_
  refine r_call rfl Try.call66 (by simp only [List.map_cons, List.map_nil, List.map_toArray, List.toList_toArray, upd_get, ev, Nat.reduceEqDiff, ↓reduceIte] <;> rfl) (FreshM_c (F := Non) (l := []) _ _ _ Rs.nil (by decide) UpK.nil) ?_
  rintro _ w3_0 ⟨rfl, X⟩
  refine ⟨_, rfl, ?_⟩
  replace H := SH.same H X
  clear X
  refine r_eql rfl rfl rfl ?_
  refine r_move rfl ?_
  refine LW.known (t := 8) (c := true) rfl (by first | rfl | (simp only [decide_eq_true_eq, decide_eq_false_iff_not, Bool.and_eq_true, Bool.or_eq_true, Bool.and_eq_false_iff, Bool.or_eq_false_iff, Bool.not_eq_true', Bool.not_eq_false', beq_iff_eq, bne_iff_ne]; omega) | simp_all) (fun hg3_3 => ?_)
  refine LW.want rfl rfl hg3_3 ?_
  refine r_move rfl ?_
  refine LW.want rfl rfl hg3_3 ?_
  refine r_buildQ rfl Try.underlying80 Try.zeroValue80 rfl (pl := [(0, 1), (1, 1), (2, 4)]) (by intro w; simp [go_sem]) (qs := [(0, [_]), (1, [_])]) (cs := [_, _, .int .i64 0, .int .i64 0, .int .i64 0, .slice none 0 0]) ⟨rfl, cells_one (by simp only [upd_get, ev, Nat.reduceEqDiff, ↓reduceIte] <;> rfl) (by first | rfl | exact Rs.oneC (by first | assumption | exact SH.rsR H (by (repeat first | exact At.here | apply At.there); done) | exact SH.rsO H (by (repeat first | exact At.here | apply At.there); done) | exact (Rs.nil : Rs Non _ _ _))), rfl, cells_one (by simp only [upd_get, ev, Nat.reduceEqDiff, ↓reduceIte] <;> rfl) (by first | rfl | exact Rs.oneC (by first | assumption | exact SH.rsR H (by (repeat first | exact At.here | apply At.there); done) | exact SH.rsO H (by (repeat first | exact At.here | apply At.there); done) | exact (Rs.nil : Rs Non _ _ _))), trivial⟩ rfl ?_
  refine LW.want rfl rfl hg3_3 ?_
  refine r_buildSliceA (vs := [_]) rfl Try.underlying81 Try.sizeOf80 Try.zeroValue80 rfl rfl rfl rfl (by simp only [List.map_cons, List.map_nil, List.toList_toArray, numbered, Nat.reduceAdd, upd_get, ev, Nat.reduceEqDiff, ↓reduceIte] <;> rfl) rfl (by intro v hv; simp only [List.mem_cons, List.not_mem_nil, or_false] at hv; rcases hv with rfl <;> rfl) ?_
  intro b3_5 w3_5 hb3_5 hs3_5 hE3_5 hB3_5
  replace H := SH.call H (SH.fromB hE3_5 hb3_5 hs3_5 hB3_5)
  clear hb3_5 hs3_5 hE3_5 hB3_5
  try dsimp only [replC, List.cons_append, List.nil_append, List.append_nil, agg, cellsL, Value.cells, List.toList_toArray, List.set_cons_zero, List.set_cons_succ, spliceL, List.take_succ_cons, List.take_zero, List.drop_succ_cons, List.drop_zero, List.length_cons, List.length_nil, Nat.reduceAdd, Row.cells, Gr.L, Rep.L, Mem.L, Ans.L] at H
  replace H := SH.row (b := b3_5) (xs := ([⟨3, 2, ⟨0, 0, 0, .slice none 0 0⟩⟩] : List Mem)) (n := 1) (cap := 1) H (by (repeat first | exact At.here | apply At.there); done) (by simp only [flat, List.flatMap_cons, List.flatMap_nil, cellsL, agg, List.append_nil, List.cons_append, List.nil_append, List.toList_toArray, Row.cells, Gr.L, Rep.L, Mem.L, Ans.L] <;> rfl) (by intro x hx; first | rfl | (simp at hx; done) | (simp only [List.mem_cons, List.not_mem_nil, or_false] at hx; rcases hx with rfl <;> first | rfl | exact (by first | rfl | assumption | exact Rs.oneC (by first | assumption | exact SH.rsR H (by (repeat first | exact At.here | apply At.there); done) | exact SH.rsO H (by (repeat first | exact At.here | apply At.there); done) | exact (Rs.nil : Rs Non _ _ _)) | (simp only [List.all_cons, List.all_nil, Bool.and_true, Bool.and_eq_true, Row.cells, Gr.L, Rep.L, Mem.L, Ans.L]; (repeat' constructor) <;> first | rfl | assumption | exact Rs.oneC (by first | assumption | exact SH.rsR H (by (repeat first | exact At.here | apply At.there); done) | exact SH.rsO H (by (repeat first | exact At.here | apply At.there); done) | exact (Rs.nil : Rs Non _ _ _)))))) (by rfl) rfl (by decide)
  try dsimp only [replC, List.cons_append, List.nil_append, List.append_nil, agg, cellsL, Value.cells, List.toList_toArray, List.set_cons_zero, List.set_cons_succ, spliceL, List.take_succ_cons, List.take_zero, List.drop_succ_cons, List.drop_zero, List.length_cons, List.length_nil, Nat.reduceAdd, Row.cells, Gr.L, Rep.L, Mem.L, Ans.L] at H
  refine LW.want rfl rfl hg3_3 ?_
  refine r_call rfl Try.call64 (by simp only [List.map_cons, List.map_nil, List.map_toArray, List.toList_toArray, upd_get, ev, Nat.reduceEqDiff, ↓reduceIte] <;> rfl) (SameMemos_c (K := F2_1) (K2 := Non) (ms := [⟨3, 2, 0, 0, 0, []⟩]) (ns := [⟨3, 2, 0, 0, 0, []⟩]) _ (SH.rsO H (i := 1) rfl) (SH.rsO H (i := 3) rfl) (SH.prop H (i := 2) rfl) ⟨⟨rfl, rfl, rfl, rfl, rfl, Rs.nil⟩, trivial⟩) ?_
  rintro _ w3_6 ⟨rfl, X⟩
  refine ⟨_, rfl, ?_⟩
  replace H := SH.same H X
  clear X
  refine r_pickT rfl rfl hg3_3 ?_
  refine r_move rfl ?_
  refine LW.known (t := 14) (c := true) rfl (by simp) (fun hg3_9 => ?_)
  refine LW.want rfl rfl hg3_9 ?_
  refine r_move rfl ?_
  refine LW.want rfl rfl hg3_9 ?_
  refine r_call rfl Try.call66 (by simp only [List.map_cons, List.map_nil, List.map_toArray, List.toList_toArray, upd_get, ev, Nat.reduceEqDiff, ↓reduceIte] <;> rfl) (FreshM_c _ _ _ (SH.rsO H (i := 1) rfl) (by simp at l1; omega) hup1) ?_
  rintro _ w3_10 ⟨rfl, X⟩
  refine ⟨_, rfl, ?_⟩
  replace H := SH.same H X
  clear X
  refine LW.want rfl rfl hg3_9 ?_
  refine r_eql rfl rfl rfl ?_
  refine r_pickT rfl rfl hg3_9 ?_
  refine r_move rfl ?_
  refine LW.known (t := 19) (c := true) rfl (by rw [hf2]; rfl) (fun hg3_14 => ?_)
  refine LW.want rfl rfl hg3_14 ?_
  refine r_move rfl ?_
  refine LW.want rfl rfl hg3_14 ?_
  refine r_call rfl Try.call66 (by simp only [List.map_cons, List.map_nil, List.map_toArray, List.toList_toArray, upd_get, ev, Nat.reduceEqDiff, ↓reduceIte] <;> rfl) (FreshM_c _ _ _ (SH.rsO H (i := 1) rfl) (by simp at l1; omega) hup1) ?_
  rintro _ w3_15 ⟨rfl, X⟩
  refine ⟨_, rfl, ?_⟩
  replace H := SH.same H X
  clear X
  refine LW.want rfl rfl hg3_14 ?_
  refine r_eql rfl rfl rfl ?_
  refine r_pickT rfl rfl hg3_14 ?_
  refine r_move rfl ?_
  refine LW.known (t := 24) (c := true) rfl (by rw [hf1]; rfl) (fun hg3_19 => ?_)
  refine LW.want rfl rfl hg3_19 ?_
  refine r_move rfl ?_
  refine LW.want rfl rfl hg3_19 ?_
  refine r_call rfl Try.call60 (by simp only [List.map_cons, List.map_nil, List.map_toArray, List.toList_toArray, upd_get, ev, Nat.reduceEqDiff, ↓reduceIte] <;> rfl) (Right_c _ (SH.rsO H (i := 1) rfl) (SH.prop H (i := 2) rfl) (right_small hr1)) ?_
  rintro _ w3_20 ⟨rfl, X⟩
  refine ⟨_, rfl, ?_⟩
  replace H := SH.same H X
  clear X
  refine r_pickT rfl rfl hg3_19 ?_
  refine r_assign rfl ?_
  refine LW.nil ?_
  refine thenE_norm ?_
  refine cut (K := K4) [0] (fun σ => ?_)
  simp only [setL, keepE, upd_get, ev, Nat.reduceEqDiff, ↓reduceIte]
  refine h4 _ _ ?_; clear h4; try clear K4
  refine CW.ret (ret1 Try.results59 (by simp only [upd_get, ev, Nat.reduceEqDiff, ↓reduceIte]; rfl) ?_)
  rw [hr1]
  exact ⟨rfl, H.ext⟩
end Go.Proofs.Ytlfbofnfhhddbaa
