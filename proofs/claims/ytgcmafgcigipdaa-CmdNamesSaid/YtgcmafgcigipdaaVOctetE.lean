/-
  The walks of layer 1's functions: Byte, Num, Text.
-/
import Derived.Test.YtgcmafgcigipdaaVOctetD
namespace Go.Proofs.Ytgcmafgcigipdaa
set_option linter.unusedSimpArgs false
set_option linter.unusedVariables false
set_option maxRecDepth 20000
open Go.V Go.RowKit

theorem Byte_ok {F : Nat → Prop} {v : Value} {xs : List UInt8} (at_ : Int) (w : World) (hv : Bs F w v xs) (hr : roomM xs at_ 1) :
    Calls Try.prog 29 #[v, .int .i64 at_] w fun e w' => e = .returned (.tuple #[.int .i64 ((xs.getD at_.toNat 0).toNat), .int .i64 (at_ + 1), .int .i64 0]) ∧ Ext0 w w' := by
  have hv0 : Bs (fun b => b < w.heap.size) w v xs := Sl.mono hv (fun b hb _ => hb)
  obtain ⟨ao, cap, rfl, hl, hm, -⟩ := hv0.cell
  refine calls_of_CWD Try.func29 rfl Try.ntmps29 (Nat.le_of_ble_eq_true rfl) rfl ?_
  simp only [argE, argFrom, Nat.reduceAdd]
  refine CW.region ?_
  refine r_alloc rfl Try.zeroValue3 rfl ?_
  intro b0_0 w0_0 hb0_0 hs0_0 hE0_0 hB0_0
  refine r_alloc rfl Try.zeroValue3 rfl ?_
  intro b0_1 w0_1 hb0_1 hs0_1 hE0_1 hB0_1
  refine r_alloc rfl Try.zeroValue24 rfl ?_
  intro b0_2 w0_2 hb0_2 hs0_2 hE0_2 hB0_2
  refine LW.nil ?_
  refine thenE_norm ⟨_, rfl, ?_⟩
  have k0 : Blk w0_2 b0_0 3 [.int .i64 0] := ((show Blk w0_0 b0_0 3 [.int .i64 0] from hB0_0).up0 hE0_1).up0 hE0_2
  have k1 : Blk w0_2 b0_1 3 [.int .i64 0] := (show Blk w0_1 b0_1 3 [.int .i64 0] from hB0_1).up0 hE0_2
  have k2 : Blk w0_2 b0_2 24 [.int .i64 0] := hB0_2
  have e0 : Ext0 w w0_2 := (hE0_0.trans hE0_1).trans hE0_2
  refine CW.seq (fun K1 h1 => ?_)
  refine CW.region ?_
  refine r_move rfl ?_
  refine r_move rfl ?_
  refine r_build rfl Try.underlying67 Try.zeroValue67 rfl (pl := [(0, 1), (1, 1)]) (by intro w; simp [go_sem]) rfl ?_
  refine r_alloc rfl Try.zeroValue67 rfl ?_
  intro b2_3 w2_3 hb2_3 hs2_3 hE2_3 hB2_3
  refine r_storeA Try.sizeOf67 rfl (by simp only [upd_get, ev, Nat.reduceEqDiff, ↓reduceIte] <;> rfl) rfl rfl rfl hB2_3 (by decide) ?_
  intro w2_4 hs2_4 hE2_4 hB2_4
  refine LW.nil ?_
  refine thenE_norm ?_
  refine cut (K := K1) [4, 5, 6, 7] (fun σ => ?_)
  simp only [setL, keepE, upd_get, ev, Nat.reduceEqDiff, ↓reduceIte]
  refine h1 _ _ ?_; clear h1; try clear K1
  refine CW.seq (fun K2 h2 => ?_)
  have kr : Blk w2_4 b2_3 67 [.slice ao xs.length cap, .int .i64 at_] := hB2_4
  have e2 : Ext0 w0_2 w2_4 := hE2_3.transN hE2_4 (fun x hx => by omega)
  have hv2 : Bs (fun b => b < w.heap.size) w2_4 (.slice ao xs.length cap) xs := hv0.up0 (e0.trans e2)
  refine CW.region ?_
  refine r_call rfl Try.call49 rfl (take_ok at_ 1 _ hv2 kr (by decide) hr) ?_
  rintro _ w3 ⟨v3, rfl, hv3, hE3, kr3⟩
  refine ⟨_, rfl, ?_⟩
  obtain ⟨ao3, cap3, rfl, hl3, hm3, hc3⟩ := (hv3 (by omega)).cell
  have hlen : ((xs.drop at_.toNat).take (1 : Int).toNat).length = 1 := by unfold roomM at hr; simp; omega
  obtain ⟨q, o, rfl, hq, hcl⟩ := hc3.resolve_left (by intro h; rw [h] at hlen; simp at hlen)
  have hl0 := hcl 0 (by omega)
  rw [show ((xs.drop at_.toNat).take (1 : Int).toNat).getD 0 0 = xs.getD at_.toNat 0 from by simp] at hl0
  refine r_indexAddr rfl Try.underlying23 Try.sizeOf5 rfl rfl (by decide) (by rw [hlen]; decide) ?_
  refine r_load rfl Try.isAgg5 rfl hl0 ?_
  refine r_assign rfl ?_
  refine LW.nil ?_
  refine thenE_norm (h2 _ _ ?_); clear h2; try clear K2
  refine CW.seq (fun K3 h3 => ?_)
  have j0 := (k0.up0 hE2_3).up hE2_4 (by omega) |>.up hE3 (by omega)
  have j1 := (k1.up0 hE2_3).up hE2_4 (by omega) |>.up hE3 (by omega)
  have j2 := (k2.up0 hE2_3).up hE2_4 (by omega) |>.up hE3 (by omega)
  have e3 : Ext0 w w3 := (e0.trans e2).transN hE3 (fun x hx => by omega)
  have hu8 := UInt8.toNat_lt (xs.getD at_.toNat 0)
  refine CW.draw (fun u => Blk u b2_3 67 [.slice ao xs.length cap, .int .i64 (at_ + 1)]) (by kernel_rfl) rfl (fun w4d hh4d hE4d => ?_)
  refine DW.take (i := 0) rfl (by kernel_rfl) (by kernel_rfl) (by kernel_rfl) rfl rfl (fun u hu => x_move ) (kr3.up0 hE4d) ?_
  refine DW.take (i := 1) rfl (by kernel_rfl) (by kernel_rfl) (by kernel_rfl) rfl rfl (fun u hu => x_convI Try.underlying5 Try.underlying3 rfl (wr_i64 (by omega) (by omega))) (kr3.up0 hE4d) ?_
  refine DW.take (i := 2) rfl (by kernel_rfl) (by kernel_rfl) (by kernel_rfl) rfl rfl (fun u hu => x_fieldAddr Try.underlying67 rfl Try.sizeOf3 (by decide) rfl) (kr3.up0 hE4d) ?_
  refine DW.take (i := 3) rfl (by kernel_rfl) (by kernel_rfl) (by kernel_rfl) rfl rfl (fun u hu => x_load Try.isAgg3 rfl (hu.cell (o := 1) rfl)) (kr3.up0 hE4d) ?_
  refine DW.one (i := 4) (by kernel_rfl) rfl rfl ?_
  refine r_store Try.sizeOf3 rfl (by simp only [upd_get, ev, Nat.reduceEqDiff, ↓reduceIte] <;> rfl) rfl (j0.up0 hE4d) (by simp) ?_
  intro w4_4 hs4_4 hE4_4 hB4_4
  try simp only [Nat.zero_add, Nat.mul_one] at hB4_4
  refine LW.nil (thenE_norm ⟨((kr3.up0 hE4d).up hE4_4 (by omega)), ?_⟩)
  refine DW.one (i := 5) (by kernel_rfl) rfl rfl ?_
  refine r_store Try.sizeOf3 rfl (by simp only [upd_get, ev, Nat.reduceEqDiff, ↓reduceIte] <;> rfl) rfl ((j1.up0 hE4d).up hE4_4 (by omega)) (by simp) ?_
  intro w4_5 hs4_5 hE4_5 hB4_5
  try simp only [Nat.zero_add, Nat.mul_one] at hB4_5
  refine LW.nil (thenE_norm ⟨(((kr3.up0 hE4d).up hE4_4 (by omega)).up hE4_5 (by omega)), ?_⟩)
  refine DW.one (i := 6) (by kernel_rfl) rfl rfl ?_
  refine r_store Try.sizeOf24 rfl (by simp only [upd_get, ev, Nat.reduceEqDiff, ↓reduceIte] <;> rfl) rfl (((j2.up0 hE4d).up hE4_4 (by omega)).up hE4_5 (by omega)) (by simp) ?_
  intro w4_6 hs4_6 hE4_6 hB4_6
  try simp only [Nat.zero_add, Nat.mul_one] at hB4_6
  refine LW.nil (thenE_norm ⟨((((kr3.up0 hE4d).up hE4_4 (by omega)).up hE4_5 (by omega)).up hE4_6 (by omega)), ?_⟩)
  refine DW.done (by kernel_rfl) ?_
  refine thenE_norm ?_
  refine cut (K := K3) [4, 5, 6] (fun σ => ?_)
  simp only [setL, keepE, upd_get, ev, Nat.reduceEqDiff, ↓reduceIte]
  refine h3 _ _ ?_; clear h3; try clear K3
  refine CW.ret (?_)
  intro tmps ht
  have r0 : Blk w4_6 b0_0 3 [.int .i64 ((xs.getD at_.toNat 0).toNat)] := (hB4_4.up hE4_5 (by omega)).up hE4_6 (by omega)
  have r1 : Blk w4_6 b0_1 3 [.int .i64 (at_ + 1)] := hB4_5.up hE4_6 (by omega)
  have r2 : Blk w4_6 b0_2 24 [.int .i64 0] := hB4_6
  have e4 : Ext0 w w4_6 := (((e3.trans hE4d).transN hE4_4 (fun x hx => by omega)).transN hE4_5 (fun x hx => by omega)).transN hE4_6 (fun x hx => by omega)
  exact leaves_ret Try.call53 (Byte_idle b0_0 b0_1 b0_2 w4_6) (fun w' hE => ⟨_, resC3 Try.results29 ht rfl rfl rfl Try.isAgg3 Try.isAgg3 Try.isAgg24 (r0.up0 hE) (r1.up0 hE) (r2.up0 hE), rfl, e4.trans hE⟩)

theorem Byte_short {F : Nat → Prop} {v : Value} {xs : List UInt8} (at_ : Int) (w : World) (hv : Bs F w v xs) (hr : ¬ roomM xs at_ 1) :
    Calls Try.prog 29 #[v, .int .i64 at_] w fun e w' => e = .returned (.tuple #[.int .i64 0, .int .i64 0, .int .i64 2]) ∧ Ext0 w w' := by
  have hv0 : Bs (fun b => b < w.heap.size) w v xs := Sl.mono hv (fun b hb _ => hb)
  obtain ⟨ao, cap, rfl, hl, hm, -⟩ := hv0.cell
  refine calls_of_CWD Try.func29 rfl Try.ntmps29 (Nat.le_of_ble_eq_true rfl) rfl ?_
  simp only [argE, argFrom, Nat.reduceAdd]
  refine CW.region ?_
  refine r_alloc rfl Try.zeroValue3 rfl ?_
  intro b0_0 w0_0 hb0_0 hs0_0 hE0_0 hB0_0
  refine r_alloc rfl Try.zeroValue3 rfl ?_
  intro b0_1 w0_1 hb0_1 hs0_1 hE0_1 hB0_1
  refine r_alloc rfl Try.zeroValue24 rfl ?_
  intro b0_2 w0_2 hb0_2 hs0_2 hE0_2 hB0_2
  refine LW.nil ?_
  refine thenE_norm ⟨_, rfl, ?_⟩
  have k0 : Blk w0_2 b0_0 3 [.int .i64 0] := ((show Blk w0_0 b0_0 3 [.int .i64 0] from hB0_0).up0 hE0_1).up0 hE0_2
  have k1 : Blk w0_2 b0_1 3 [.int .i64 0] := (show Blk w0_1 b0_1 3 [.int .i64 0] from hB0_1).up0 hE0_2
  have k2 : Blk w0_2 b0_2 24 [.int .i64 0] := hB0_2
  have e0 : Ext0 w w0_2 := (hE0_0.trans hE0_1).trans hE0_2
  refine CW.seq (fun K1 h1 => ?_)
  refine CW.region ?_
  refine r_move rfl ?_
  refine r_move rfl ?_
  refine r_build rfl Try.underlying67 Try.zeroValue67 rfl (pl := [(0, 1), (1, 1)]) (by intro w; simp [go_sem]) rfl ?_
  refine r_alloc rfl Try.zeroValue67 rfl ?_
  intro b2_3 w2_3 hb2_3 hs2_3 hE2_3 hB2_3
  refine r_storeA Try.sizeOf67 rfl (by simp only [upd_get, ev, Nat.reduceEqDiff, ↓reduceIte] <;> rfl) rfl rfl rfl hB2_3 (by decide) ?_
  intro w2_4 hs2_4 hE2_4 hB2_4
  refine LW.nil ?_
  refine thenE_norm ?_
  refine cut (K := K1) [4, 5, 6, 7] (fun σ => ?_)
  simp only [setL, keepE, upd_get, ev, Nat.reduceEqDiff, ↓reduceIte]
  refine h1 _ _ ?_; clear h1; try clear K1
  refine CW.seq (fun K2 h2 => ?_)
  have kr : Blk w2_4 b2_3 67 [.slice ao xs.length cap, .int .i64 at_] := hB2_4
  have e2 : Ext0 w0_2 w2_4 := hE2_3.transN hE2_4 (fun x hx => by omega)
  have hv2 : Bs (fun b => b < w.heap.size) w2_4 (.slice ao xs.length cap) xs := hv0.up0 (e0.trans e2)
  refine CW.region ?_
  refine r_callP rfl Try.call49 rfl (take_fail at_ 1 _ hv2 kr (by decide) hr) ?_
  rintro _ w3 ⟨rfl, hE3⟩
  refine .inr ⟨_, rfl, thenE_pan (?_)⟩
  have i0 := ((k0.up0 hE2_3).up hE2_4 (by omega)).up0 hE3
  have i1 := ((k1.up0 hE2_3).up hE2_4 (by omega)).up0 hE3
  have i2 := ((k2.up0 hE2_3).up hE2_4 (by omega)).up0 hE3
  have e3 : Ext0 w w3 := (e0.trans e2).trans hE3
  intro tmps ht
  refine leaves_pan (v0 := faultV 2) Try.call53 (Byte_catch b0_0 b0_1 b0_2 2 w3 _ _ _ i0 i1 i2 (by omega) (by omega) (by omega)) (fun w' hT => ⟨_, resC3 Try.results29 ht rfl rfl rfl Try.isAgg3 Try.isAgg3 Try.isAgg24 hT.2.1 hT.2.2.1 hT.2.2.2, rfl, e3.transN hT.1 (fun x hx => by rcases hx with rfl | rfl | rfl <;> omega)⟩)

theorem Num_short {F : Nat → Prop} {v : Value} {xs : List UInt8} (at_ : Int) (w : World) (hv : Bs F w v xs) (hr : ¬ roomM xs at_ 8) :
    Calls Try.prog 24 #[v, .int .i64 at_] w fun e w' => e = .returned (.tuple #[.int .i64 0, .int .i64 0, .int .i64 2]) ∧ Ext0 w w' := by
  have hv0 : Bs (fun b => b < w.heap.size) w v xs := Sl.mono hv (fun b hb _ => hb)
  obtain ⟨ao, cap, rfl, hl, hm, -⟩ := hv0.cell
  refine calls_of_CWD Try.func24 rfl Try.ntmps24 (Nat.le_of_ble_eq_true rfl) rfl ?_
  simp only [argE, argFrom, Nat.reduceAdd]
  refine CW.region ?_
  refine r_alloc rfl Try.zeroValue3 rfl ?_
  intro b0_0 w0_0 hb0_0 hs0_0 hE0_0 hB0_0
  refine r_alloc rfl Try.zeroValue3 rfl ?_
  intro b0_1 w0_1 hb0_1 hs0_1 hE0_1 hB0_1
  refine r_alloc rfl Try.zeroValue24 rfl ?_
  intro b0_2 w0_2 hb0_2 hs0_2 hE0_2 hB0_2
  refine LW.nil ?_
  refine thenE_norm ⟨_, rfl, ?_⟩
  have k0 : Blk w0_2 b0_0 3 [.int .i64 0] := ((show Blk w0_0 b0_0 3 [.int .i64 0] from hB0_0).up0 hE0_1).up0 hE0_2
  have k1 : Blk w0_2 b0_1 3 [.int .i64 0] := (show Blk w0_1 b0_1 3 [.int .i64 0] from hB0_1).up0 hE0_2
  have k2 : Blk w0_2 b0_2 24 [.int .i64 0] := hB0_2
  have e0 : Ext0 w w0_2 := (hE0_0.trans hE0_1).trans hE0_2
  refine CW.seq (fun K1 h1 => ?_)
  refine CW.region ?_
  refine r_move rfl ?_
  refine r_move rfl ?_
  refine r_build rfl Try.underlying67 Try.zeroValue67 rfl (pl := [(0, 1), (1, 1)]) (by intro w; simp [go_sem]) rfl ?_
  refine r_alloc rfl Try.zeroValue67 rfl ?_
  intro b2_3 w2_3 hb2_3 hs2_3 hE2_3 hB2_3
  refine r_storeA Try.sizeOf67 rfl (by simp only [upd_get, ev, Nat.reduceEqDiff, ↓reduceIte] <;> rfl) rfl rfl rfl hB2_3 (by decide) ?_
  intro w2_4 hs2_4 hE2_4 hB2_4
  refine LW.nil ?_
  refine thenE_norm ?_
  refine cut (K := K1) [4, 5, 6, 7] (fun σ => ?_)
  simp only [setL, keepE, upd_get, ev, Nat.reduceEqDiff, ↓reduceIte]
  refine h1 _ _ ?_; clear h1; try clear K1
  refine CW.seq (fun K2 h2 => ?_)
  have kr : Blk w2_4 b2_3 67 [.slice ao xs.length cap, .int .i64 at_] := hB2_4
  have e2 : Ext0 w0_2 w2_4 := hE2_3.transN hE2_4 (fun x hx => by omega)
  have hv2 : Bs (fun b => b < w.heap.size) w2_4 (.slice ao xs.length cap) xs := hv0.up0 (e0.trans e2)
  refine CW.region ?_
  refine r_assign rfl ?_
  refine LW.nil ?_
  refine thenE_norm (h2 _ _ ?_); clear h2; try clear K2
  refine CW.seq (fun K3 h3 => ?_)
  refine CW.seq (fun K4 h4 => ?_)
  refine CW.region ?_
  refine r_callP rfl Try.call49 rfl (take_fail at_ 8 _ hv2 kr (by decide) hr) ?_
  rintro _ w3 ⟨rfl, hE3⟩
  refine .inr ⟨_, rfl, thenE_pan (thenE_pan (?_))⟩
  have i0 := ((k0.up0 hE2_3).up hE2_4 (by omega)).up0 hE3
  have i1 := ((k1.up0 hE2_3).up hE2_4 (by omega)).up0 hE3
  have i2 := ((k2.up0 hE2_3).up hE2_4 (by omega)).up0 hE3
  have e3 : Ext0 w w3 := (e0.trans e2).trans hE3
  intro tmps ht
  refine leaves_pan (v0 := faultV 2) Try.call51 (Num_catch b0_0 b0_1 b0_2 2 w3 _ _ _ i0 i1 i2 (by omega) (by omega) (by omega)) (fun w' hT => ⟨_, resC3 Try.results24 ht rfl rfl rfl Try.isAgg3 Try.isAgg3 Try.isAgg24 hT.2.1 hT.2.2.1 hT.2.2.2, rfl, e3.transN hT.1 (fun x hx => by rcases hx with rfl | rfl | rfl <;> omega)⟩)

theorem Num_ok {F : Nat → Prop} {v : Value} {xs : List UInt8} (at_ : Int) (w : World) (hv : Bs F w v xs) (hr : roomM xs at_ 8) (h64 : be ((xs.drop at_.toNat).take (8 : Int).toNat) < 4611686018427387904) :
    Calls Try.prog 24 #[v, .int .i64 at_] w fun e w' => e = .returned (.tuple #[.int .i64 (be ((xs.drop at_.toNat).take (8 : Int).toNat)), .int .i64 (at_ + 8), .int .i64 0]) ∧ Ext0 w w' := by
  have hv0 : Bs (fun b => b < w.heap.size) w v xs := Sl.mono hv (fun b hb _ => hb)
  obtain ⟨ao, cap, rfl, hl, hm, -⟩ := hv0.cell
  refine calls_of_CWD Try.func24 rfl Try.ntmps24 (Nat.le_of_ble_eq_true rfl) rfl ?_
  simp only [argE, argFrom, Nat.reduceAdd]
  refine CW.region ?_
  refine r_alloc rfl Try.zeroValue3 rfl ?_
  intro b0_0 w0_0 hb0_0 hs0_0 hE0_0 hB0_0
  refine r_alloc rfl Try.zeroValue3 rfl ?_
  intro b0_1 w0_1 hb0_1 hs0_1 hE0_1 hB0_1
  refine r_alloc rfl Try.zeroValue24 rfl ?_
  intro b0_2 w0_2 hb0_2 hs0_2 hE0_2 hB0_2
  refine LW.nil ?_
  refine thenE_norm ⟨_, rfl, ?_⟩
  have k0 : Blk w0_2 b0_0 3 [.int .i64 0] := ((show Blk w0_0 b0_0 3 [.int .i64 0] from hB0_0).up0 hE0_1).up0 hE0_2
  have k1 : Blk w0_2 b0_1 3 [.int .i64 0] := (show Blk w0_1 b0_1 3 [.int .i64 0] from hB0_1).up0 hE0_2
  have k2 : Blk w0_2 b0_2 24 [.int .i64 0] := hB0_2
  have e0 : Ext0 w w0_2 := (hE0_0.trans hE0_1).trans hE0_2
  refine CW.seq (fun K1 h1 => ?_)
  refine CW.region ?_
  refine r_move rfl ?_
  refine r_move rfl ?_
  refine r_build rfl Try.underlying67 Try.zeroValue67 rfl (pl := [(0, 1), (1, 1)]) (by intro w; simp [go_sem]) rfl ?_
  refine r_alloc rfl Try.zeroValue67 rfl ?_
  intro b2_3 w2_3 hb2_3 hs2_3 hE2_3 hB2_3
  refine r_storeA Try.sizeOf67 rfl (by simp only [upd_get, ev, Nat.reduceEqDiff, ↓reduceIte] <;> rfl) rfl rfl rfl hB2_3 (by decide) ?_
  intro w2_4 hs2_4 hE2_4 hB2_4
  refine LW.nil ?_
  refine thenE_norm ?_
  refine cut (K := K1) [4, 5, 6, 7] (fun σ => ?_)
  simp only [setL, keepE, upd_get, ev, Nat.reduceEqDiff, ↓reduceIte]
  refine h1 _ _ ?_; clear h1; try clear K1
  refine CW.seq (fun K2 h2 => ?_)
  have kr : Blk w2_4 b2_3 67 [.slice ao xs.length cap, .int .i64 at_] := hB2_4
  have e2 : Ext0 w0_2 w2_4 := hE2_3.transN hE2_4 (fun x hx => by omega)
  have hv2 : Bs (fun b => b < w.heap.size) w2_4 (.slice ao xs.length cap) xs := hv0.up0 (e0.trans e2)
  refine CW.region ?_
  refine r_assign rfl ?_
  refine LW.nil ?_
  refine thenE_norm (h2 _ _ ?_); clear h2; try clear K2
  refine CW.seq (fun K3 h3 => ?_)
  refine CW.seq (fun K4 h4 => ?_)
  refine CW.region ?_
  refine r_call rfl Try.call49 rfl (take_ok at_ 8 _ hv2 kr (by decide) hr) ?_
  rintro _ w3 ⟨v3, rfl, hv3, hE3, kr3⟩
  refine ⟨_, rfl, ?_⟩
  have hv3b := hv3 (by omega)
  obtain ⟨ao3, cap3, rfl, hl3, hm3, hc3⟩ := hv3b.cell
  have hlen : ((xs.drop at_.toNat).take (8 : Int).toNat).length = 8 := by unfold roomM at hr; simp; omega
  obtain ⟨q, o, rfl, hq, hcl⟩ := hc3.resolve_left (by intro h; rw [h] at hlen; simp at hlen)
  generalize hys : (xs.drop at_.toNat).take (8 : Int).toNat = ys at *
  refine r_len rfl Try.underlying23 rfl ?_
  refine r_move rfl ?_
  refine LW.nil ?_
  refine thenE_norm (h4 _ _ ?_); clear h4; try clear K4
  refine CW.block ?_
  refine CW.loopR [4, 5, 6, 7, 15, 16] [8, 17] (fun m vs w' => ∃ i : Int, vs = [.int .u64 (be (ys.take i.toNat)), .int .i64 i] ∧ 0 ≤ i ∧ i ≤ 8 ∧ m = (8 - i).toNat ∧ w3 = w') (8) ?_ ?_
  · exact ⟨0, rfl, by omega, by omega, rfl, rfl⟩
  rintro n1 vs1 wL1 σ ⟨i, rfl, hi0, hi8, rfl, rfl⟩
  simp only [setL, keepE, upd_get, ev, Nat.reduceEqDiff, ↓reduceIte]
  have hbl : be (ys.take i.toNat) < 256 ^ i.toNat := by
    have := be_lt (ys.take i.toNat)
    rwa [List.length_take, Nat.min_eq_left (by omega)] at this
  refine CW.seq (fun K5 h5 => ?_)
  refine CW.region ?_
  refine r_lss rfl rfl rfl ?_
  refine LW.nil ?_
  refine thenE_norm (h5 _ _ ?_); clear h5; try clear K5
  refine CW.seq (fun K6 h6 => ?_)
  refine CW.cond rfl (fun hc1 => ?_) (fun hc1 => ?_)
  · try simp only [decide_eq_true_eq, decide_eq_false_iff_not, Bool.and_eq_true, Bool.or_eq_true, Bool.and_eq_false_iff, Bool.or_eq_false_iff, Bool.not_eq_true', Bool.not_eq_false', beq_iff_eq, bne_iff_ne] at hc1
    refine CW.skip ?_
    refine thenE_norm (h6 _ _ ?_); clear h6; try clear K6
    refine CW.seq (fun K7 h7 => ?_)
    refine CW.block ?_
    refine CW.seq (fun K8 h8 => ?_)
    have hpw : (256 : Nat) ^ i.toNat ≤ 256 ^ 7 := Nat.pow_le_pow_right (by omega) (by omega)
    have hu8 := UInt8.toNat_lt (ys.getD i.toNat 0)
    have hl6 := hcl i.toNat (by omega)
    refine CW.region ?_
    refine r_indexAddr rfl Try.underlying23 Try.sizeOf5 rfl rfl hi0 (by omega) ?_
    refine r_load rfl Try.isAgg5 rfl hl6 ?_
    refine r_assign rfl ?_
    refine LW.nil ?_
    refine thenE_norm (h8 _ _ ?_); clear h8; try clear K8
    refine CW.region ?_
    refine r_move rfl ?_
    refine r_shl rfl rfl rfl (by omega) (by simp [IntKind.bits]) ?_
    refine r_move rfl ?_
    refine r_convI rfl Try.underlying5 Try.underlying70 rfl (wr_u64 (by omega) (by omega)) ?_
    refine r_or rfl rfl rfl (be_or _ _ (by omega)) ?_
    refine r_assign rfl ?_
    refine LW.nil ?_
    refine blockE_norm ?_
    refine thenE_norm (h7 _ _ ?_); clear h7; try clear K7
    refine CW.region ?_
    refine r_add rfl rfl rfl (wr_i64 (by omega) (by omega)) ?_
    refine r_move rfl ?_
    refine LW.nil ?_
    refine thenE_norm ⟨rfl, ?_⟩
    exact ⟨_, by omega, i + 1, by rw [show (i + 1).toNat = i.toNat + 1 from by omega, ← be_step0 ys i.toNat (by omega)]; rfl, by omega, by omega, rfl, rfl⟩
  · try simp only [decide_eq_true_eq, decide_eq_false_iff_not, Bool.and_eq_true, Bool.or_eq_true, Bool.and_eq_false_iff, Bool.or_eq_false_iff, Bool.not_eq_true', Bool.not_eq_false', beq_iff_eq, bne_iff_ne] at hc1
    refine CW.exit (thenE_exit (thenE_exit (blockE_hit ?_)))
    refine thenE_norm (h3 _ _ ?_); clear h3; try clear K3
    refine CW.seq (fun K9 h9 => ?_)
    refine CW.seq (fun K10 h10 => ?_)
    have hi : i = 8 := by omega
    subst hi
    have hfull : ys.take (8 : Int).toNat = ys := List.take_of_length_le (by rw [hlen]; decide)
    rw [hfull] at *
    refine CW.region ?_
    refine r_move rfl ?_
    refine r_geq rfl rfl rfl ?_
    refine LW.nil ?_
    refine thenE_norm (h10 _ _ ?_); clear h10; try clear K10
    refine CW.condF rfl (by simp; omega) ?_
    refine CW.skip ?_
    refine thenE_norm (h9 _ _ ?_); clear h9; try clear K9
    refine CW.seq (fun K11 h11 => ?_)
    have j0 := (k0.up0 hE2_3).up hE2_4 (by omega) |>.up hE3 (by omega)
    have j1 := (k1.up0 hE2_3).up hE2_4 (by omega) |>.up hE3 (by omega)
    have j2 := (k2.up0 hE2_3).up hE2_4 (by omega) |>.up hE3 (by omega)
    have e3 : Ext0 w w3 := (e0.trans e2).transN hE3 (fun x hx => by omega)
    refine CW.draw (fun u => Blk u b2_3 67 [.slice ao xs.length cap, .int .i64 (at_ + 8)]) (by kernel_rfl) rfl (fun w11d hh11d hE11d => ?_)
    refine DW.take (i := 0) rfl (by kernel_rfl) (by kernel_rfl) (by kernel_rfl) rfl rfl (fun u hu => x_move ) (kr3.up0 hE11d) ?_
    refine DW.take (i := 1) rfl (by kernel_rfl) (by kernel_rfl) (by kernel_rfl) rfl rfl (fun u hu => x_convI Try.underlying70 Try.underlying3 rfl (wr_i64 (by omega) (by omega))) (kr3.up0 hE11d) ?_
    refine DW.take (i := 2) rfl (by kernel_rfl) (by kernel_rfl) (by kernel_rfl) rfl rfl (fun u hu => x_fieldAddr Try.underlying67 rfl Try.sizeOf3 (by decide) rfl) (kr3.up0 hE11d) ?_
    refine DW.take (i := 3) rfl (by kernel_rfl) (by kernel_rfl) (by kernel_rfl) rfl rfl (fun u hu => x_load Try.isAgg3 rfl (hu.cell (o := 1) rfl)) (kr3.up0 hE11d) ?_
    refine DW.one (i := 4) (by kernel_rfl) rfl rfl ?_
    refine r_store Try.sizeOf3 rfl (by simp only [upd_get, ev, Nat.reduceEqDiff, ↓reduceIte] <;> rfl) rfl (j0.up0 hE11d) (by simp) ?_
    intro w11_4 hs11_4 hE11_4 hB11_4
    try simp only [Nat.zero_add, Nat.mul_one] at hB11_4
    refine LW.nil (thenE_norm ⟨((kr3.up0 hE11d).up hE11_4 (by omega)), ?_⟩)
    refine DW.one (i := 5) (by kernel_rfl) rfl rfl ?_
    refine r_store Try.sizeOf3 rfl (by simp only [upd_get, ev, Nat.reduceEqDiff, ↓reduceIte] <;> rfl) rfl ((j1.up0 hE11d).up hE11_4 (by omega)) (by simp) ?_
    intro w11_5 hs11_5 hE11_5 hB11_5
    try simp only [Nat.zero_add, Nat.mul_one] at hB11_5
    refine LW.nil (thenE_norm ⟨(((kr3.up0 hE11d).up hE11_4 (by omega)).up hE11_5 (by omega)), ?_⟩)
    refine DW.one (i := 6) (by kernel_rfl) rfl rfl ?_
    refine r_store Try.sizeOf24 rfl (by simp only [upd_get, ev, Nat.reduceEqDiff, ↓reduceIte] <;> rfl) rfl (((j2.up0 hE11d).up hE11_4 (by omega)).up hE11_5 (by omega)) (by simp) ?_
    intro w11_6 hs11_6 hE11_6 hB11_6
    try simp only [Nat.zero_add, Nat.mul_one] at hB11_6
    refine LW.nil (thenE_norm ⟨((((kr3.up0 hE11d).up hE11_4 (by omega)).up hE11_5 (by omega)).up hE11_6 (by omega)), ?_⟩)
    refine DW.done (by kernel_rfl) ?_
    refine thenE_norm ?_
    refine cut (K := K11) [4, 5, 6] (fun σ => ?_)
    simp only [setL, keepE, upd_get, ev, Nat.reduceEqDiff, ↓reduceIte]
    refine h11 _ _ ?_; clear h11; try clear K11
    refine CW.ret (?_)
    intro tmps ht
    have r0 : Blk w11_6 b0_0 3 [.int .i64 (be ys)] := (hB11_4.up hE11_5 (by omega)).up hE11_6 (by omega)
    have r1 : Blk w11_6 b0_1 3 [.int .i64 (at_ + 8)] := hB11_5.up hE11_6 (by omega)
    have r2 : Blk w11_6 b0_2 24 [.int .i64 0] := hB11_6
    have e4 : Ext0 w w11_6 := (((e3.trans hE11d).transN hE11_4 (fun x hx => by omega)).transN hE11_5 (fun x hx => by omega)).transN hE11_6 (fun x hx => by omega)
    exact leaves_ret Try.call51 (Num_idle b0_0 b0_1 b0_2 w11_6) (fun w' hE => ⟨_, resC3 Try.results24 ht rfl rfl rfl Try.isAgg3 Try.isAgg3 Try.isAgg24 (r0.up0 hE) (r1.up0 hE) (r2.up0 hE), rfl, e4.trans hE⟩)

theorem Num_form {F : Nat → Prop} {v : Value} {xs : List UInt8} (at_ : Int) (w : World) (hv : Bs F w v xs) (hr : roomM xs at_ 8) (h64 : 4611686018427387904 ≤ be ((xs.drop at_.toNat).take (8 : Int).toNat)) :
    Calls Try.prog 24 #[v, .int .i64 at_] w fun e w' => e = .returned (.tuple #[.int .i64 0, .int .i64 0, .int .i64 4]) ∧ Ext0 w w' := by
  have hv0 : Bs (fun b => b < w.heap.size) w v xs := Sl.mono hv (fun b hb _ => hb)
  obtain ⟨ao, cap, rfl, hl, hm, -⟩ := hv0.cell
  refine calls_of_CWD Try.func24 rfl Try.ntmps24 (Nat.le_of_ble_eq_true rfl) rfl ?_
  simp only [argE, argFrom, Nat.reduceAdd]
  refine CW.region ?_
  refine r_alloc rfl Try.zeroValue3 rfl ?_
  intro b0_0 w0_0 hb0_0 hs0_0 hE0_0 hB0_0
  refine r_alloc rfl Try.zeroValue3 rfl ?_
  intro b0_1 w0_1 hb0_1 hs0_1 hE0_1 hB0_1
  refine r_alloc rfl Try.zeroValue24 rfl ?_
  intro b0_2 w0_2 hb0_2 hs0_2 hE0_2 hB0_2
  refine LW.nil ?_
  refine thenE_norm ⟨_, rfl, ?_⟩
  have k0 : Blk w0_2 b0_0 3 [.int .i64 0] := ((show Blk w0_0 b0_0 3 [.int .i64 0] from hB0_0).up0 hE0_1).up0 hE0_2
  have k1 : Blk w0_2 b0_1 3 [.int .i64 0] := (show Blk w0_1 b0_1 3 [.int .i64 0] from hB0_1).up0 hE0_2
  have k2 : Blk w0_2 b0_2 24 [.int .i64 0] := hB0_2
  have e0 : Ext0 w w0_2 := (hE0_0.trans hE0_1).trans hE0_2
  refine CW.seq (fun K1 h1 => ?_)
  refine CW.region ?_
  refine r_move rfl ?_
  refine r_move rfl ?_
  refine r_build rfl Try.underlying67 Try.zeroValue67 rfl (pl := [(0, 1), (1, 1)]) (by intro w; simp [go_sem]) rfl ?_
  refine r_alloc rfl Try.zeroValue67 rfl ?_
  intro b2_3 w2_3 hb2_3 hs2_3 hE2_3 hB2_3
  refine r_storeA Try.sizeOf67 rfl (by simp only [upd_get, ev, Nat.reduceEqDiff, ↓reduceIte] <;> rfl) rfl rfl rfl hB2_3 (by decide) ?_
  intro w2_4 hs2_4 hE2_4 hB2_4
  refine LW.nil ?_
  refine thenE_norm ?_
  refine cut (K := K1) [4, 5, 6, 7] (fun σ => ?_)
  simp only [setL, keepE, upd_get, ev, Nat.reduceEqDiff, ↓reduceIte]
  refine h1 _ _ ?_; clear h1; try clear K1
  refine CW.seq (fun K2 h2 => ?_)
  have kr : Blk w2_4 b2_3 67 [.slice ao xs.length cap, .int .i64 at_] := hB2_4
  have e2 : Ext0 w0_2 w2_4 := hE2_3.transN hE2_4 (fun x hx => by omega)
  have hv2 : Bs (fun b => b < w.heap.size) w2_4 (.slice ao xs.length cap) xs := hv0.up0 (e0.trans e2)
  refine CW.region ?_
  refine r_assign rfl ?_
  refine LW.nil ?_
  refine thenE_norm (h2 _ _ ?_); clear h2; try clear K2
  refine CW.seq (fun K3 h3 => ?_)
  refine CW.seq (fun K4 h4 => ?_)
  refine CW.region ?_
  refine r_call rfl Try.call49 rfl (take_ok at_ 8 _ hv2 kr (by decide) hr) ?_
  rintro _ w3 ⟨v3, rfl, hv3, hE3, kr3⟩
  refine ⟨_, rfl, ?_⟩
  have hv3b := hv3 (by omega)
  obtain ⟨ao3, cap3, rfl, hl3, hm3, hc3⟩ := hv3b.cell
  have hlen : ((xs.drop at_.toNat).take (8 : Int).toNat).length = 8 := by unfold roomM at hr; simp; omega
  obtain ⟨q, o, rfl, hq, hcl⟩ := hc3.resolve_left (by intro h; rw [h] at hlen; simp at hlen)
  generalize hys : (xs.drop at_.toNat).take (8 : Int).toNat = ys at *
  refine r_len rfl Try.underlying23 rfl ?_
  refine r_move rfl ?_
  refine LW.nil ?_
  refine thenE_norm (h4 _ _ ?_); clear h4; try clear K4
  refine CW.block ?_
  refine CW.loopR [4, 5, 6, 7, 15, 16] [8, 17] (fun m vs w' => ∃ i : Int, vs = [.int .u64 (be (ys.take i.toNat)), .int .i64 i] ∧ 0 ≤ i ∧ i ≤ 8 ∧ m = (8 - i).toNat ∧ w3 = w') (8) ?_ ?_
  · exact ⟨0, rfl, by omega, by omega, rfl, rfl⟩
  rintro n1 vs1 wL1 σ ⟨i, rfl, hi0, hi8, rfl, rfl⟩
  simp only [setL, keepE, upd_get, ev, Nat.reduceEqDiff, ↓reduceIte]
  have hbl : be (ys.take i.toNat) < 256 ^ i.toNat := by
    have := be_lt (ys.take i.toNat)
    rwa [List.length_take, Nat.min_eq_left (by omega)] at this
  refine CW.seq (fun K5 h5 => ?_)
  refine CW.region ?_
  refine r_lss rfl rfl rfl ?_
  refine LW.nil ?_
  refine thenE_norm (h5 _ _ ?_); clear h5; try clear K5
  refine CW.seq (fun K6 h6 => ?_)
  refine CW.cond rfl (fun hc1 => ?_) (fun hc1 => ?_)
  · try simp only [decide_eq_true_eq, decide_eq_false_iff_not, Bool.and_eq_true, Bool.or_eq_true, Bool.and_eq_false_iff, Bool.or_eq_false_iff, Bool.not_eq_true', Bool.not_eq_false', beq_iff_eq, bne_iff_ne] at hc1
    refine CW.skip ?_
    refine thenE_norm (h6 _ _ ?_); clear h6; try clear K6
    refine CW.seq (fun K7 h7 => ?_)
    refine CW.block ?_
    refine CW.seq (fun K8 h8 => ?_)
    have hpw : (256 : Nat) ^ i.toNat ≤ 256 ^ 7 := Nat.pow_le_pow_right (by omega) (by omega)
    have hu8 := UInt8.toNat_lt (ys.getD i.toNat 0)
    have hl6 := hcl i.toNat (by omega)
    refine CW.region ?_
    refine r_indexAddr rfl Try.underlying23 Try.sizeOf5 rfl rfl hi0 (by omega) ?_
    refine r_load rfl Try.isAgg5 rfl hl6 ?_
    refine r_assign rfl ?_
    refine LW.nil ?_
    refine thenE_norm (h8 _ _ ?_); clear h8; try clear K8
    refine CW.region ?_
    refine r_move rfl ?_
    refine r_shl rfl rfl rfl (by omega) (by simp [IntKind.bits]) ?_
    refine r_move rfl ?_
    refine r_convI rfl Try.underlying5 Try.underlying70 rfl (wr_u64 (by omega) (by omega)) ?_
    refine r_or rfl rfl rfl (be_or _ _ (by omega)) ?_
    refine r_assign rfl ?_
    refine LW.nil ?_
    refine blockE_norm ?_
    refine thenE_norm (h7 _ _ ?_); clear h7; try clear K7
    refine CW.region ?_
    refine r_add rfl rfl rfl (wr_i64 (by omega) (by omega)) ?_
    refine r_move rfl ?_
    refine LW.nil ?_
    refine thenE_norm ⟨rfl, ?_⟩
    exact ⟨_, by omega, i + 1, by rw [show (i + 1).toNat = i.toNat + 1 from by omega, ← be_step0 ys i.toNat (by omega)]; rfl, by omega, by omega, rfl, rfl⟩
  · try simp only [decide_eq_true_eq, decide_eq_false_iff_not, Bool.and_eq_true, Bool.or_eq_true, Bool.and_eq_false_iff, Bool.or_eq_false_iff, Bool.not_eq_true', Bool.not_eq_false', beq_iff_eq, bne_iff_ne] at hc1
    refine CW.exit (thenE_exit (thenE_exit (blockE_hit ?_)))
    refine thenE_norm (h3 _ _ ?_); clear h3; try clear K3
    refine CW.seq (fun K9 h9 => ?_)
    refine CW.seq (fun K10 h10 => ?_)
    have hi : i = 8 := by omega
    subst hi
    have hfull : ys.take (8 : Int).toNat = ys := List.take_of_length_le (by rw [hlen]; decide)
    rw [hfull] at *
    refine CW.region ?_
    refine r_move rfl ?_
    refine r_geq rfl rfl rfl ?_
    refine LW.nil ?_
    refine thenE_norm (h10 _ _ ?_); clear h10; try clear K10
    refine CW.condT rfl (by simp; omega) ?_
    have i0 := (k0.up0 hE2_3).up hE2_4 (by omega) |>.up hE3 (by omega)
    have i1 := (k1.up0 hE2_3).up hE2_4 (by omega) |>.up hE3 (by omega)
    have i2 := (k2.up0 hE2_3).up hE2_4 (by omega) |>.up hE3 (by omega)
    have e3 : Ext0 w w3 := (e0.trans e2).transN hE3 (fun x hx => by omega)
    refine CW.region ?_
    refine r_build rfl Try.underlying64 Try.zeroValue64 rfl (pl := [(0, 1)]) (by intro w; simp [go_sem]) rfl ?_
    refine r_makeInterface rfl (by kernel_rfl) (by simp only [upd_get, ev, Nat.reduceEqDiff, ↓reduceIte] <;> rfl) ?_
    refine r_panic rfl (thenE_pan (?_))
    intro tmps ht
    refine leaves_pan (v0 := faultV 4) Try.call51 (Num_catch b0_0 b0_1 b0_2 4 w3 _ _ _ i0 i1 i2 (by omega) (by omega) (by omega)) (fun w' hT => ⟨_, resC3 Try.results24 ht rfl rfl rfl Try.isAgg3 Try.isAgg3 Try.isAgg24 hT.2.1 hT.2.2.1 hT.2.2.2, rfl, e3.transN hT.1 (fun x hx => by rcases hx with rfl | rfl | rfl <;> omega)⟩)
end Go.Proofs.Ytgcmafgcigipdaa
