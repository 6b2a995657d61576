/-
  The walks of layer 1's functions: the deferred closures that catch the reader's failure.
-/
import Derived.Test.YtgcmafgcigipdaaVOctetC
import Derived.Test.YtgcmafgcigipdaaVDefer
namespace Go.Proofs.Ytgcmafgcigipdaa
set_option linter.unusedSimpArgs false
set_option linter.unusedVariables false
set_option maxRecDepth 20000
open Go.V Go.RowKit

/-- The deferred closure of Byte, where the body panicked: the code is laid. -/
theorem Byte_catch (p0 p1 p2 : Nat) (c : Int) (w : World) (x0 x1 x2 : Value) (h0 : Blk w p0 3 [x0]) (h1 : Blk w p1 3 [x1]) (h2 : Blk w p2 24 [x2]) (d01 : p0 ≠ p1) (d02 : p0 ≠ p2) (d12 : p1 ≠ p2) :
    CallsD Try.prog 53 #[.pointer (some ⟨p0, 0, none⟩), .pointer (some ⟨p1, 0, none⟩), .pointer (some ⟨p2, 0, none⟩)] (.panicking [{ v := faultV c, recovered := false }]) w fun e u' w' =>
      e = .returned (.tuple #[]) ∧ u' = .panicking [{ v := faultV c, recovered := true }] ∧ (Ext (fun b => b = p0 ∨ b = p1 ∨ b = p2) w w' ∧ Blk w' p0 3 [.int .i64 0] ∧ Blk w' p1 3 [.int .i64 0] ∧ Blk w' p2 24 [.int .i64 c]) := by
  have l0 := h0.lt
  have l1 := h1.lt
  have l2 := h2.lt
  refine callsD_recover Try.func53 rfl Try.ntmps53 (Nat.le_of_ble_eq_true rfl) Try.results53 (fun _ _ => by simp [go_sem]) rfl rfl rfl (.inl ⟨faultV c, [], rfl, rfl, rfl⟩) ?_
  simp only [argE, argFrom, Nat.reduceAdd]
  refine r_typeAssertT rfl Try.underlying64 (fun ms => by simp) rfl ?_
  refine r_move rfl ?_
  refine r_extract rfl rfl rfl ?_
  refine r_extract rfl rfl rfl ?_
  refine r_alloc rfl Try.zeroValue64 rfl ?_
  intro b0_5 w0_5 hb0_5 hs0_5 hE0_5 hB0_5
  refine r_storeA Try.sizeOf64 rfl (by simp only [upd_get, ev, Nat.reduceEqDiff, ↓reduceIte] <;> rfl) rfl rfl rfl hB0_5 (by decide) ?_
  intro w0_6 hs0_6 hE0_6 hB0_6
  refine r_assign rfl ?_
  refine LW.nil (thenE_norm ?_)
  refine CW.seq (fun K1 h1 => ?_)
  refine CW.region ?_
  refine r_move rfl ?_
  refine LW.nil ?_
  refine thenE_norm ?_
  refine cut (K := K1) [0, 1, 2, 3, 10] (fun σ => ?_)
  simp only [setL, keepE, upd_get, ev, Nat.reduceEqDiff, ↓reduceIte]
  refine h1 _ _ ?_; clear h1; try clear K1
  refine CW.condT rfl rfl ?_
  have k0 := (h0.up0 hE0_5).up hE0_6 (by omega)
  have k1 := (h1.up0 hE0_5).up hE0_6 (by omega)
  have k2 := (h2.up0 hE0_5).up hE0_6 (by omega)
  have kf : Blk w0_6 b0_5 64 [.int .i64 c] := hB0_6
  have eA : Ext0 w w0_6 := hE0_5.transN hE0_6 (fun x hx => by omega)
  refine CW.draw (fun u => Blk u b0_5 64 [.int .i64 c]) (by kernel_rfl) rfl (fun w2d hh2d hE2d => ?_)
  refine DW.take (i := 0) rfl (by kernel_rfl) (by kernel_rfl) (by kernel_rfl) rfl rfl (fun u hu => x_fieldAddr Try.underlying64 rfl Try.sizeOf24 (by decide) rfl) (kf.up0 hE2d) ?_
  refine DW.take (i := 1) rfl (by kernel_rfl) (by kernel_rfl) (by kernel_rfl) rfl rfl (fun u hu => x_load Try.isAgg24 rfl (hu.cell (o := 0) rfl)) (kf.up0 hE2d) ?_
  refine DW.one (i := 2) (by kernel_rfl) rfl rfl ?_
  refine r_store Try.sizeOf3 rfl (by simp only [upd_get, ev, Nat.reduceEqDiff, ↓reduceIte] <;> rfl) rfl (k0.up0 hE2d) (by simp) ?_
  intro w2_2 hs2_2 hE2_2 hB2_2
  try simp only [Nat.zero_add, Nat.mul_one] at hB2_2
  refine LW.nil (thenE_norm ⟨((kf.up0 hE2d).up hE2_2 (by omega)), ?_⟩)
  refine DW.one (i := 3) (by kernel_rfl) rfl rfl ?_
  refine r_store Try.sizeOf3 rfl (by simp only [upd_get, ev, Nat.reduceEqDiff, ↓reduceIte] <;> rfl) rfl ((k1.up0 hE2d).up hE2_2 (by omega)) (by simp) ?_
  intro w2_3 hs2_3 hE2_3 hB2_3
  try simp only [Nat.zero_add, Nat.mul_one] at hB2_3
  refine LW.nil (thenE_norm ⟨(((kf.up0 hE2d).up hE2_2 (by omega)).up hE2_3 (by omega)), ?_⟩)
  refine DW.one (i := 4) (by kernel_rfl) rfl rfl ?_
  refine r_store Try.sizeOf24 rfl (by simp only [upd_get, ev, Nat.reduceEqDiff, ↓reduceIte] <;> rfl) rfl (((k2.up0 hE2d).up hE2_2 (by omega)).up hE2_3 (by omega)) (by simp) ?_
  intro w2_4 hs2_4 hE2_4 hB2_4
  try simp only [Nat.zero_add, Nat.mul_one] at hB2_4
  refine LW.nil (thenE_norm ⟨((((kf.up0 hE2d).up hE2_2 (by omega)).up hE2_3 (by omega)).up hE2_4 (by omega)), ?_⟩)
  refine DW.done (by kernel_rfl) ?_
  refine ⟨.inl rfl, ?_⟩
  refine ⟨?_, (hB2_2.up hE2_3 (by omega)).up hE2_4 (by omega), hB2_3.up hE2_4 (by omega), hB2_4⟩
  have e1 : Ext0 w w2d := eA.trans hE2d
  exact Ext.trans (Ext.trans (Ext.trans e1 hE2_2 (U := fun b => b = p0 ∨ b = p1 ∨ b = p2) (fun _ _ h => h.elim) (fun _ _ h => .inl h)) hE2_3 (fun _ _ h => h) (fun _ _ h => .inr (.inl h))) hE2_4 (fun _ _ h => h) (fun _ _ h => .inr (.inr h))
/-- .. where the body returned: nothing is touched. -/
theorem Byte_idle (p0 p1 p2 : Nat) (w : World) :
    CallsD Try.prog 53 #[.pointer (some ⟨p0, 0, none⟩), .pointer (some ⟨p1, 0, none⟩), .pointer (some ⟨p2, 0, none⟩)] .returning w fun e u' w' =>
      e = .returned (.tuple #[]) ∧ u' = .returning ∧ Ext0 w w' := by
  refine callsD_recover Try.func53 rfl Try.ntmps53 (Nat.le_of_ble_eq_true rfl) Try.results53 (fun _ _ => by simp [go_sem]) rfl rfl rfl (.inr ⟨rfl, rfl, rfl⟩) ?_
  simp only [argE, argFrom, Nat.reduceAdd]
  refine r_typeAssertF rfl Try.underlying64 Try.zeroValue64 rfl ?_
  refine r_move rfl ?_
  refine r_extract rfl rfl rfl ?_
  refine r_extract rfl rfl rfl ?_
  refine r_alloc rfl Try.zeroValue64 rfl ?_
  intro b0_5 w0_5 hb0_5 hs0_5 hE0_5 hB0_5
  refine r_storeA Try.sizeOf64 rfl (by simp only [upd_get, ev, Nat.reduceEqDiff, ↓reduceIte] <;> rfl) rfl rfl rfl hB0_5 (by decide) ?_
  intro w0_6 hs0_6 hE0_6 hB0_6
  refine r_assign rfl ?_
  refine LW.nil (thenE_norm ?_)
  refine CW.seq (fun K1 h1 => ?_)
  refine CW.region ?_
  refine r_move rfl ?_
  refine LW.nil ?_
  refine thenE_norm ?_
  refine cut (K := K1) [0, 1, 2, 3, 10] (fun σ => ?_)
  simp only [setL, keepE, upd_get, ev, Nat.reduceEqDiff, ↓reduceIte]
  refine h1 _ _ ?_; clear h1; try clear K1
  refine CW.condF rfl rfl ?_
  refine CW.skip ?_
  refine ⟨.inl rfl, ?_⟩
  exact hE0_5.transN hE0_6 (fun x hx => by omega)

/-- The deferred closure of Num, where the body panicked: the code is laid. -/
theorem Num_catch (p0 p1 p2 : Nat) (c : Int) (w : World) (x0 x1 x2 : Value) (h0 : Blk w p0 3 [x0]) (h1 : Blk w p1 3 [x1]) (h2 : Blk w p2 24 [x2]) (d01 : p0 ≠ p1) (d02 : p0 ≠ p2) (d12 : p1 ≠ p2) :
    CallsD Try.prog 51 #[.pointer (some ⟨p0, 0, none⟩), .pointer (some ⟨p1, 0, none⟩), .pointer (some ⟨p2, 0, none⟩)] (.panicking [{ v := faultV c, recovered := false }]) w fun e u' w' =>
      e = .returned (.tuple #[]) ∧ u' = .panicking [{ v := faultV c, recovered := true }] ∧ (Ext (fun b => b = p0 ∨ b = p1 ∨ b = p2) w w' ∧ Blk w' p0 3 [.int .i64 0] ∧ Blk w' p1 3 [.int .i64 0] ∧ Blk w' p2 24 [.int .i64 c]) := by
  have l0 := h0.lt
  have l1 := h1.lt
  have l2 := h2.lt
  refine callsD_recover Try.func51 rfl Try.ntmps51 (Nat.le_of_ble_eq_true rfl) Try.results51 (fun _ _ => by simp [go_sem]) rfl rfl rfl (.inl ⟨faultV c, [], rfl, rfl, rfl⟩) ?_
  simp only [argE, argFrom, Nat.reduceAdd]
  refine r_typeAssertT rfl Try.underlying64 (fun ms => by simp) rfl ?_
  refine r_move rfl ?_
  refine r_extract rfl rfl rfl ?_
  refine r_extract rfl rfl rfl ?_
  refine r_alloc rfl Try.zeroValue64 rfl ?_
  intro b0_5 w0_5 hb0_5 hs0_5 hE0_5 hB0_5
  refine r_storeA Try.sizeOf64 rfl (by simp only [upd_get, ev, Nat.reduceEqDiff, ↓reduceIte] <;> rfl) rfl rfl rfl hB0_5 (by decide) ?_
  intro w0_6 hs0_6 hE0_6 hB0_6
  refine r_assign rfl ?_
  refine LW.nil (thenE_norm ?_)
  refine CW.seq (fun K1 h1 => ?_)
  refine CW.region ?_
  refine r_move rfl ?_
  refine LW.nil ?_
  refine thenE_norm ?_
  refine cut (K := K1) [0, 1, 2, 3, 10] (fun σ => ?_)
  simp only [setL, keepE, upd_get, ev, Nat.reduceEqDiff, ↓reduceIte]
  refine h1 _ _ ?_; clear h1; try clear K1
  refine CW.condT rfl rfl ?_
  have k0 := (h0.up0 hE0_5).up hE0_6 (by omega)
  have k1 := (h1.up0 hE0_5).up hE0_6 (by omega)
  have k2 := (h2.up0 hE0_5).up hE0_6 (by omega)
  have kf : Blk w0_6 b0_5 64 [.int .i64 c] := hB0_6
  have eA : Ext0 w w0_6 := hE0_5.transN hE0_6 (fun x hx => by omega)
  refine CW.draw (fun u => Blk u b0_5 64 [.int .i64 c]) (by kernel_rfl) rfl (fun w2d hh2d hE2d => ?_)
  refine DW.take (i := 0) rfl (by kernel_rfl) (by kernel_rfl) (by kernel_rfl) rfl rfl (fun u hu => x_fieldAddr Try.underlying64 rfl Try.sizeOf24 (by decide) rfl) (kf.up0 hE2d) ?_
  refine DW.take (i := 1) rfl (by kernel_rfl) (by kernel_rfl) (by kernel_rfl) rfl rfl (fun u hu => x_load Try.isAgg24 rfl (hu.cell (o := 0) rfl)) (kf.up0 hE2d) ?_
  refine DW.one (i := 2) (by kernel_rfl) rfl rfl ?_
  refine r_store Try.sizeOf3 rfl (by simp only [upd_get, ev, Nat.reduceEqDiff, ↓reduceIte] <;> rfl) rfl (k0.up0 hE2d) (by simp) ?_
  intro w2_2 hs2_2 hE2_2 hB2_2
  try simp only [Nat.zero_add, Nat.mul_one] at hB2_2
  refine LW.nil (thenE_norm ⟨((kf.up0 hE2d).up hE2_2 (by omega)), ?_⟩)
  refine DW.one (i := 3) (by kernel_rfl) rfl rfl ?_
  refine r_store Try.sizeOf3 rfl (by simp only [upd_get, ev, Nat.reduceEqDiff, ↓reduceIte] <;> rfl) rfl ((k1.up0 hE2d).up hE2_2 (by omega)) (by simp) ?_
  intro w2_3 hs2_3 hE2_3 hB2_3
  try simp only [Nat.zero_add, Nat.mul_one] at hB2_3
  refine LW.nil (thenE_norm ⟨(((kf.up0 hE2d).up hE2_2 (by omega)).up hE2_3 (by omega)), ?_⟩)
  refine DW.one (i := 4) (by kernel_rfl) rfl rfl ?_
  refine r_store Try.sizeOf24 rfl (by simp only [upd_get, ev, Nat.reduceEqDiff, ↓reduceIte] <;> rfl) rfl (((k2.up0 hE2d).up hE2_2 (by omega)).up hE2_3 (by omega)) (by simp) ?_
  intro w2_4 hs2_4 hE2_4 hB2_4
  try simp only [Nat.zero_add, Nat.mul_one] at hB2_4
  refine LW.nil (thenE_norm ⟨((((kf.up0 hE2d).up hE2_2 (by omega)).up hE2_3 (by omega)).up hE2_4 (by omega)), ?_⟩)
  refine DW.done (by kernel_rfl) ?_
  refine ⟨.inl rfl, ?_⟩
  refine ⟨?_, (hB2_2.up hE2_3 (by omega)).up hE2_4 (by omega), hB2_3.up hE2_4 (by omega), hB2_4⟩
  have e1 : Ext0 w w2d := eA.trans hE2d
  exact Ext.trans (Ext.trans (Ext.trans e1 hE2_2 (U := fun b => b = p0 ∨ b = p1 ∨ b = p2) (fun _ _ h => h.elim) (fun _ _ h => .inl h)) hE2_3 (fun _ _ h => h) (fun _ _ h => .inr (.inl h))) hE2_4 (fun _ _ h => h) (fun _ _ h => .inr (.inr h))
/-- .. where the body returned: nothing is touched. -/
theorem Num_idle (p0 p1 p2 : Nat) (w : World) :
    CallsD Try.prog 51 #[.pointer (some ⟨p0, 0, none⟩), .pointer (some ⟨p1, 0, none⟩), .pointer (some ⟨p2, 0, none⟩)] .returning w fun e u' w' =>
      e = .returned (.tuple #[]) ∧ u' = .returning ∧ Ext0 w w' := by
  refine callsD_recover Try.func51 rfl Try.ntmps51 (Nat.le_of_ble_eq_true rfl) Try.results51 (fun _ _ => by simp [go_sem]) rfl rfl rfl (.inr ⟨rfl, rfl, rfl⟩) ?_
  simp only [argE, argFrom, Nat.reduceAdd]
  refine r_typeAssertF rfl Try.underlying64 Try.zeroValue64 rfl ?_
  refine r_move rfl ?_
  refine r_extract rfl rfl rfl ?_
  refine r_extract rfl rfl rfl ?_
  refine r_alloc rfl Try.zeroValue64 rfl ?_
  intro b0_5 w0_5 hb0_5 hs0_5 hE0_5 hB0_5
  refine r_storeA Try.sizeOf64 rfl (by simp only [upd_get, ev, Nat.reduceEqDiff, ↓reduceIte] <;> rfl) rfl rfl rfl hB0_5 (by decide) ?_
  intro w0_6 hs0_6 hE0_6 hB0_6
  refine r_assign rfl ?_
  refine LW.nil (thenE_norm ?_)
  refine CW.seq (fun K1 h1 => ?_)
  refine CW.region ?_
  refine r_move rfl ?_
  refine LW.nil ?_
  refine thenE_norm ?_
  refine cut (K := K1) [0, 1, 2, 3, 10] (fun σ => ?_)
  simp only [setL, keepE, upd_get, ev, Nat.reduceEqDiff, ↓reduceIte]
  refine h1 _ _ ?_; clear h1; try clear K1
  refine CW.condF rfl rfl ?_
  refine CW.skip ?_
  refine ⟨.inl rfl, ?_⟩
  exact hE0_5.transN hE0_6 (fun x hx => by omega)

/-- The deferred closure of Text, where the body panicked: the code is laid. -/
theorem Text_catch (p0 p1 p2 : Nat) (c : Int) (w : World) (x0 x1 x2 : Value) (h0 : Blk w p0 9 [x0]) (h1 : Blk w p1 3 [x1]) (h2 : Blk w p2 24 [x2]) (d01 : p0 ≠ p1) (d02 : p0 ≠ p2) (d12 : p1 ≠ p2) :
    CallsD Try.prog 48 #[.pointer (some ⟨p0, 0, none⟩), .pointer (some ⟨p1, 0, none⟩), .pointer (some ⟨p2, 0, none⟩)] (.panicking [{ v := faultV c, recovered := false }]) w fun e u' w' =>
      e = .returned (.tuple #[]) ∧ u' = .panicking [{ v := faultV c, recovered := true }] ∧ (Ext (fun b => b = p0 ∨ b = p1 ∨ b = p2) w w' ∧ Blk w' p0 9 [.string (ByteArray.mk #[])] ∧ Blk w' p1 3 [.int .i64 0] ∧ Blk w' p2 24 [.int .i64 c]) := by
  have l0 := h0.lt
  have l1 := h1.lt
  have l2 := h2.lt
  refine callsD_recover Try.func48 rfl Try.ntmps48 (Nat.le_of_ble_eq_true rfl) Try.results48 (fun _ _ => by simp [go_sem]) rfl rfl rfl (.inl ⟨faultV c, [], rfl, rfl, rfl⟩) ?_
  simp only [argE, argFrom, Nat.reduceAdd]
  refine r_typeAssertT rfl Try.underlying64 (fun ms => by simp) rfl ?_
  refine r_move rfl ?_
  refine r_extract rfl rfl rfl ?_
  refine r_extract rfl rfl rfl ?_
  refine r_alloc rfl Try.zeroValue64 rfl ?_
  intro b0_5 w0_5 hb0_5 hs0_5 hE0_5 hB0_5
  refine r_storeA Try.sizeOf64 rfl (by simp only [upd_get, ev, Nat.reduceEqDiff, ↓reduceIte] <;> rfl) rfl rfl rfl hB0_5 (by decide) ?_
  intro w0_6 hs0_6 hE0_6 hB0_6
  refine r_assign rfl ?_
  refine LW.nil (thenE_norm ?_)
  refine CW.seq (fun K1 h1 => ?_)
  refine CW.region ?_
  refine r_move rfl ?_
  refine LW.nil ?_
  refine thenE_norm ?_
  refine cut (K := K1) [0, 1, 2, 3, 10] (fun σ => ?_)
  simp only [setL, keepE, upd_get, ev, Nat.reduceEqDiff, ↓reduceIte]
  refine h1 _ _ ?_; clear h1; try clear K1
  refine CW.condT rfl rfl ?_
  have k0 := (h0.up0 hE0_5).up hE0_6 (by omega)
  have k1 := (h1.up0 hE0_5).up hE0_6 (by omega)
  have k2 := (h2.up0 hE0_5).up hE0_6 (by omega)
  have kf : Blk w0_6 b0_5 64 [.int .i64 c] := hB0_6
  have eA : Ext0 w w0_6 := hE0_5.transN hE0_6 (fun x hx => by omega)
  refine CW.draw (fun u => Blk u b0_5 64 [.int .i64 c]) (by kernel_rfl) rfl (fun w2d hh2d hE2d => ?_)
  refine DW.take (i := 0) rfl (by kernel_rfl) (by kernel_rfl) (by kernel_rfl) rfl rfl (fun u hu => x_fieldAddr Try.underlying64 rfl Try.sizeOf24 (by decide) rfl) (kf.up0 hE2d) ?_
  refine DW.take (i := 1) rfl (by kernel_rfl) (by kernel_rfl) (by kernel_rfl) rfl rfl (fun u hu => x_load Try.isAgg24 rfl (hu.cell (o := 0) rfl)) (kf.up0 hE2d) ?_
  refine DW.one (i := 2) (by kernel_rfl) rfl rfl ?_
  refine r_store Try.sizeOf9 rfl (by simp only [upd_get, ev, Nat.reduceEqDiff, ↓reduceIte] <;> rfl) rfl (k0.up0 hE2d) (by simp) ?_
  intro w2_2 hs2_2 hE2_2 hB2_2
  try simp only [Nat.zero_add, Nat.mul_one] at hB2_2
  refine LW.nil (thenE_norm ⟨((kf.up0 hE2d).up hE2_2 (by omega)), ?_⟩)
  refine DW.one (i := 3) (by kernel_rfl) rfl rfl ?_
  refine r_store Try.sizeOf3 rfl (by simp only [upd_get, ev, Nat.reduceEqDiff, ↓reduceIte] <;> rfl) rfl ((k1.up0 hE2d).up hE2_2 (by omega)) (by simp) ?_
  intro w2_3 hs2_3 hE2_3 hB2_3
  try simp only [Nat.zero_add, Nat.mul_one] at hB2_3
  refine LW.nil (thenE_norm ⟨(((kf.up0 hE2d).up hE2_2 (by omega)).up hE2_3 (by omega)), ?_⟩)
  refine DW.one (i := 4) (by kernel_rfl) rfl rfl ?_
  refine r_store Try.sizeOf24 rfl (by simp only [upd_get, ev, Nat.reduceEqDiff, ↓reduceIte] <;> rfl) rfl (((k2.up0 hE2d).up hE2_2 (by omega)).up hE2_3 (by omega)) (by simp) ?_
  intro w2_4 hs2_4 hE2_4 hB2_4
  try simp only [Nat.zero_add, Nat.mul_one] at hB2_4
  refine LW.nil (thenE_norm ⟨((((kf.up0 hE2d).up hE2_2 (by omega)).up hE2_3 (by omega)).up hE2_4 (by omega)), ?_⟩)
  refine DW.done (by kernel_rfl) ?_
  refine ⟨.inl rfl, ?_⟩
  refine ⟨?_, (hB2_2.up hE2_3 (by omega)).up hE2_4 (by omega), hB2_3.up hE2_4 (by omega), hB2_4⟩
  have e1 : Ext0 w w2d := eA.trans hE2d
  exact Ext.trans (Ext.trans (Ext.trans e1 hE2_2 (U := fun b => b = p0 ∨ b = p1 ∨ b = p2) (fun _ _ h => h.elim) (fun _ _ h => .inl h)) hE2_3 (fun _ _ h => h) (fun _ _ h => .inr (.inl h))) hE2_4 (fun _ _ h => h) (fun _ _ h => .inr (.inr h))
/-- .. where the body returned: nothing is touched. -/
theorem Text_idle (p0 p1 p2 : Nat) (w : World) :
    CallsD Try.prog 48 #[.pointer (some ⟨p0, 0, none⟩), .pointer (some ⟨p1, 0, none⟩), .pointer (some ⟨p2, 0, none⟩)] .returning w fun e u' w' =>
      e = .returned (.tuple #[]) ∧ u' = .returning ∧ Ext0 w w' := by
  refine callsD_recover Try.func48 rfl Try.ntmps48 (Nat.le_of_ble_eq_true rfl) Try.results48 (fun _ _ => by simp [go_sem]) rfl rfl rfl (.inr ⟨rfl, rfl, rfl⟩) ?_
  simp only [argE, argFrom, Nat.reduceAdd]
  refine r_typeAssertF rfl Try.underlying64 Try.zeroValue64 rfl ?_
  refine r_move rfl ?_
  refine r_extract rfl rfl rfl ?_
  refine r_extract rfl rfl rfl ?_
  refine r_alloc rfl Try.zeroValue64 rfl ?_
  intro b0_5 w0_5 hb0_5 hs0_5 hE0_5 hB0_5
  refine r_storeA Try.sizeOf64 rfl (by simp only [upd_get, ev, Nat.reduceEqDiff, ↓reduceIte] <;> rfl) rfl rfl rfl hB0_5 (by decide) ?_
  intro w0_6 hs0_6 hE0_6 hB0_6
  refine r_assign rfl ?_
  refine LW.nil (thenE_norm ?_)
  refine CW.seq (fun K1 h1 => ?_)
  refine CW.region ?_
  refine r_move rfl ?_
  refine LW.nil ?_
  refine thenE_norm ?_
  refine cut (K := K1) [0, 1, 2, 3, 10] (fun σ => ?_)
  simp only [setL, keepE, upd_get, ev, Nat.reduceEqDiff, ↓reduceIte]
  refine h1 _ _ ?_; clear h1; try clear K1
  refine CW.condF rfl rfl ?_
  refine CW.skip ?_
  refine ⟨.inl rfl, ?_⟩
  exact hE0_5.transN hE0_6 (fun x hx => by omega)
end Go.Proofs.Ytgcmafgcigipdaa
