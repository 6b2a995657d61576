/-
  The walks of layer 1's functions: Text; and the three, as the plain functions say.
-/
import Derived.Test.YtgcmafgcigipdaaVOctetE
namespace Go.Proofs.Ytgcmafgcigipdaa
set_option linter.unusedSimpArgs false
set_option linter.unusedVariables false
set_option maxRecDepth 20000
open Go.V Go.RowKit

theorem Text_short {F : Nat → Prop} {v : Value} {xs : List UInt8} (at_ most : Int) (w : World) (hv : Bs F w v xs) (hr : ¬ roomM xs at_ 1) :
    Calls Try.prog 20 #[v, .int .i64 at_, .int .i64 most] w fun e w' => e = .returned (.tuple #[.string (ByteArray.mk #[]), .int .i64 0, .int .i64 2]) ∧ Ext0 w w' := by
  have hv0 : Bs (fun b => b < w.heap.size) w v xs := Sl.mono hv (fun b hb _ => hb)
  obtain ⟨ao, cap, rfl, hl, hm, -⟩ := hv0.cell
  refine calls_of_CWD Try.func20 rfl Try.ntmps20 (Nat.le_of_ble_eq_true rfl) rfl ?_
  simp only [argE, argFrom, Nat.reduceAdd]
  refine CW.region ?_
  refine r_alloc rfl Try.zeroValue9 rfl ?_
  intro b0_0 w0_0 hb0_0 hs0_0 hE0_0 hB0_0
  refine r_alloc rfl Try.zeroValue3 rfl ?_
  intro b0_1 w0_1 hb0_1 hs0_1 hE0_1 hB0_1
  refine r_alloc rfl Try.zeroValue24 rfl ?_
  intro b0_2 w0_2 hb0_2 hs0_2 hE0_2 hB0_2
  refine LW.nil ?_
  refine thenE_norm ⟨_, rfl, ?_⟩
  have k0 : Blk w0_2 b0_0 9 [.string (ByteArray.mk #[])] := ((show Blk w0_0 b0_0 9 [.string (ByteArray.mk #[])] from hB0_0).up0 hE0_1).up0 hE0_2
  have k1 : Blk w0_2 b0_1 3 [.int .i64 0] := (show Blk w0_1 b0_1 3 [.int .i64 0] from hB0_1).up0 hE0_2
  have k2 : Blk w0_2 b0_2 24 [.int .i64 0] := hB0_2
  have e0 : Ext0 w w0_2 := (hE0_0.trans hE0_1).trans hE0_2
  refine CW.seq (fun K1 h1 => ?_)
  refine CW.region ?_
  refine r_move rfl ?_
  refine r_move rfl ?_
  refine r_build rfl Try.underlying67 Try.zeroValue67 rfl (pl := [(0, 1), (1, 1)]) (by intro w; simp [go_sem]) rfl ?_
  refine r_alloc rfl Try.zeroValue67 rfl ?_
  intro b2_3 w2_3 hb2_3 hs2_3 hE2_3 hB2_3
  refine r_storeA Try.sizeOf67 rfl (by simp only [upd_get, ev, Nat.reduceEqDiff, ↓reduceIte] <;> rfl) rfl rfl rfl hB2_3 (by decide) ?_
  intro w2_4 hs2_4 hE2_4 hB2_4
  refine LW.nil ?_
  refine thenE_norm ?_
  refine cut (K := K1) [2, 6, 7, 8, 9] (fun σ => ?_)
  simp only [setL, keepE, upd_get, ev, Nat.reduceEqDiff, ↓reduceIte]
  refine h1 _ _ ?_; clear h1; try clear K1
  refine CW.seq (fun K2 h2 => ?_)
  have kr : Blk w2_4 b2_3 67 [.slice ao xs.length cap, .int .i64 at_] := hB2_4
  have e2 : Ext0 w0_2 w2_4 := hE2_3.transN hE2_4 (fun x hx => by omega)
  have hv2 : Bs (fun b => b < w.heap.size) w2_4 (.slice ao xs.length cap) xs := hv0.up0 (e0.trans e2)
  refine CW.region ?_
  refine r_callP rfl Try.call49 rfl (take_fail at_ 1 _ hv2 kr (by decide) hr) ?_
  rintro _ w3 ⟨rfl, hE3⟩
  refine .inr ⟨_, rfl, thenE_pan (?_)⟩
  have i0 := ((k0.up0 hE2_3).up hE2_4 (by omega)).up0 hE3
  have i1 := ((k1.up0 hE2_3).up hE2_4 (by omega)).up0 hE3
  have i2 := ((k2.up0 hE2_3).up hE2_4 (by omega)).up0 hE3
  have e3 : Ext0 w w3 := (e0.trans e2).trans hE3
  intro tmps ht
  refine leaves_pan (v0 := faultV 2) Try.call48 (Text_catch b0_0 b0_1 b0_2 2 w3 _ _ _ i0 i1 i2 (by omega) (by omega) (by omega)) (fun w' hT => ⟨_, resC3 Try.results20 ht rfl rfl rfl Try.isAgg9 Try.isAgg3 Try.isAgg24 hT.2.1 hT.2.2.1 hT.2.2.2, rfl, e3.transN hT.1 (fun x hx => by rcases hx with rfl | rfl | rfl <;> omega)⟩)

theorem Text_long {F : Nat → Prop} {v : Value} {xs : List UInt8} (at_ most : Int) (w : World) (hv : Bs F w v xs) (hr : roomM xs at_ 1) (hm : most < (xs.getD at_.toNat 0).toNat) :
    Calls Try.prog 20 #[v, .int .i64 at_, .int .i64 most] w fun e w' => e = .returned (.tuple #[.string (ByteArray.mk #[]), .int .i64 0, .int .i64 3]) ∧ Ext0 w w' := by
  have hv0 : Bs (fun b => b < w.heap.size) w v xs := Sl.mono hv (fun b hb _ => hb)
  obtain ⟨ao, cap, rfl, hl, hm9, -⟩ := hv0.cell
  refine calls_of_CWD Try.func20 rfl Try.ntmps20 (Nat.le_of_ble_eq_true rfl) rfl ?_
  simp only [argE, argFrom, Nat.reduceAdd]
  refine CW.region ?_
  refine r_alloc rfl Try.zeroValue9 rfl ?_
  intro b0_0 w0_0 hb0_0 hs0_0 hE0_0 hB0_0
  refine r_alloc rfl Try.zeroValue3 rfl ?_
  intro b0_1 w0_1 hb0_1 hs0_1 hE0_1 hB0_1
  refine r_alloc rfl Try.zeroValue24 rfl ?_
  intro b0_2 w0_2 hb0_2 hs0_2 hE0_2 hB0_2
  refine LW.nil ?_
  refine thenE_norm ⟨_, rfl, ?_⟩
  have k0 : Blk w0_2 b0_0 9 [.string (ByteArray.mk #[])] := ((show Blk w0_0 b0_0 9 [.string (ByteArray.mk #[])] from hB0_0).up0 hE0_1).up0 hE0_2
  have k1 : Blk w0_2 b0_1 3 [.int .i64 0] := (show Blk w0_1 b0_1 3 [.int .i64 0] from hB0_1).up0 hE0_2
  have k2 : Blk w0_2 b0_2 24 [.int .i64 0] := hB0_2
  have e0 : Ext0 w w0_2 := (hE0_0.trans hE0_1).trans hE0_2
  refine CW.seq (fun K1 h1 => ?_)
  refine CW.region ?_
  refine r_move rfl ?_
  refine r_move rfl ?_
  refine r_build rfl Try.underlying67 Try.zeroValue67 rfl (pl := [(0, 1), (1, 1)]) (by intro w; simp [go_sem]) rfl ?_
  refine r_alloc rfl Try.zeroValue67 rfl ?_
  intro b2_3 w2_3 hb2_3 hs2_3 hE2_3 hB2_3
  refine r_storeA Try.sizeOf67 rfl (by simp only [upd_get, ev, Nat.reduceEqDiff, ↓reduceIte] <;> rfl) rfl rfl rfl hB2_3 (by decide) ?_
  intro w2_4 hs2_4 hE2_4 hB2_4
  refine LW.nil ?_
  refine thenE_norm ?_
  refine cut (K := K1) [2, 6, 7, 8, 9] (fun σ => ?_)
  simp only [setL, keepE, upd_get, ev, Nat.reduceEqDiff, ↓reduceIte]
  refine h1 _ _ ?_; clear h1; try clear K1
  refine CW.seq (fun K2 h2 => ?_)
  have kr : Blk w2_4 b2_3 67 [.slice ao xs.length cap, .int .i64 at_] := hB2_4
  have e2 : Ext0 w0_2 w2_4 := hE2_3.transN hE2_4 (fun x hx => by omega)
  have hv2 : Bs (fun b => b < w.heap.size) w2_4 (.slice ao xs.length cap) xs := hv0.up0 (e0.trans e2)
  refine CW.region ?_
  refine r_call rfl Try.call49 rfl (take_ok at_ 1 _ hv2 kr (by decide) hr) ?_
  rintro _ w3 ⟨v3, rfl, hv3, hE3, kr3⟩
  refine ⟨_, rfl, ?_⟩
  obtain ⟨ao3, cap3, rfl, hl3, hm39, hc3⟩ := (hv3 (by omega)).cell
  have hlen : ((xs.drop at_.toNat).take (1 : Int).toNat).length = 1 := by unfold roomM at hr; simp; omega
  obtain ⟨q, o, rfl, hq, hcl⟩ := hc3.resolve_left (by intro h; rw [h] at hlen; simp at hlen)
  have hl0 := hcl 0 (by omega)
  rw [show ((xs.drop at_.toNat).take (1 : Int).toNat).getD 0 0 = xs.getD at_.toNat 0 from by simp] at hl0
  have hu8 := UInt8.toNat_lt (xs.getD at_.toNat 0)
  have j0 := (k0.up0 hE2_3).up hE2_4 (by omega) |>.up hE3 (by omega)
  have j1 := (k1.up0 hE2_3).up hE2_4 (by omega) |>.up hE3 (by omega)
  have j2 := (k2.up0 hE2_3).up hE2_4 (by omega) |>.up hE3 (by omega)
  have e3 : Ext0 w w3 := (e0.trans e2).transN hE3 (fun x hx => by omega)
  refine r_indexAddr rfl Try.underlying23 Try.sizeOf5 rfl rfl (by decide) (by rw [hlen]; decide) ?_
  refine r_load rfl Try.isAgg5 rfl hl0 ?_
  refine r_convI rfl Try.underlying5 Try.underlying3 rfl (wr_i64 (by omega) (by omega)) ?_
  refine r_assign rfl ?_
  refine LW.nil ?_
  refine thenE_norm (h2 _ _ ?_); clear h2; try clear K2
  refine CW.seq (fun K3 h3 => ?_)
  refine CW.seq (fun K4 h4 => ?_)
  refine CW.region ?_
  refine r_move rfl ?_
  refine r_move rfl ?_
  refine r_gtr rfl rfl rfl ?_
  refine LW.nil ?_
  refine thenE_norm ?_
  refine cut (K := K4) [6, 7, 8, 9, 10, 21] (fun σ => ?_)
  simp only [setL, keepE, upd_get, ev, Nat.reduceEqDiff, ↓reduceIte]
  refine h4 _ _ ?_; clear h4; try clear K4
  refine CW.condT rfl (by first | rfl | (simp only [decide_eq_true_eq, decide_eq_false_iff_not, Bool.and_eq_true, Bool.or_eq_true, Bool.and_eq_false_iff, Bool.or_eq_false_iff, Bool.not_eq_true', Bool.not_eq_false', beq_iff_eq, bne_iff_ne]; omega) | simp_all) ?_
  have i0 := j0
  have i1 := j1
  have i2 := j2
  refine CW.region ?_
  refine r_build rfl Try.underlying64 Try.zeroValue64 rfl (pl := [(0, 1)]) (by intro w; simp [go_sem]) rfl ?_
  refine r_makeInterface rfl (by kernel_rfl) (by simp only [upd_get, ev, Nat.reduceEqDiff, ↓reduceIte] <;> rfl) ?_
  refine r_panic rfl (thenE_pan (?_))
  intro tmps ht
  refine leaves_pan (v0 := faultV 3) Try.call48 (Text_catch b0_0 b0_1 b0_2 3 w3 _ _ _ i0 i1 i2 (by omega) (by omega) (by omega)) (fun w' hT => ⟨_, resC3 Try.results20 ht rfl rfl rfl Try.isAgg9 Try.isAgg3 Try.isAgg24 hT.2.1 hT.2.2.1 hT.2.2.2, rfl, e3.transN hT.1 (fun x hx => by rcases hx with rfl | rfl | rfl <;> omega)⟩)

theorem Text_cut {F : Nat → Prop} {v : Value} {xs : List UInt8} (at_ most : Int) (w : World) (hv : Bs F w v xs) (hr : roomM xs at_ 1) (hm : (xs.getD at_.toNat 0).toNat ≤ most) (hr2 : ¬ roomM xs (at_ + 1) (xs.getD at_.toNat 0).toNat) :
    Calls Try.prog 20 #[v, .int .i64 at_, .int .i64 most] w fun e w' => e = .returned (.tuple #[.string (ByteArray.mk #[]), .int .i64 0, .int .i64 2]) ∧ Ext0 w w' := by
  have hv0 : Bs (fun b => b < w.heap.size) w v xs := Sl.mono hv (fun b hb _ => hb)
  obtain ⟨ao, cap, rfl, hl, hm9, -⟩ := hv0.cell
  refine calls_of_CWD Try.func20 rfl Try.ntmps20 (Nat.le_of_ble_eq_true rfl) rfl ?_
  simp only [argE, argFrom, Nat.reduceAdd]
  refine CW.region ?_
  refine r_alloc rfl Try.zeroValue9 rfl ?_
  intro b0_0 w0_0 hb0_0 hs0_0 hE0_0 hB0_0
  refine r_alloc rfl Try.zeroValue3 rfl ?_
  intro b0_1 w0_1 hb0_1 hs0_1 hE0_1 hB0_1
  refine r_alloc rfl Try.zeroValue24 rfl ?_
  intro b0_2 w0_2 hb0_2 hs0_2 hE0_2 hB0_2
  refine LW.nil ?_
  refine thenE_norm ⟨_, rfl, ?_⟩
  have k0 : Blk w0_2 b0_0 9 [.string (ByteArray.mk #[])] := ((show Blk w0_0 b0_0 9 [.string (ByteArray.mk #[])] from hB0_0).up0 hE0_1).up0 hE0_2
  have k1 : Blk w0_2 b0_1 3 [.int .i64 0] := (show Blk w0_1 b0_1 3 [.int .i64 0] from hB0_1).up0 hE0_2
  have k2 : Blk w0_2 b0_2 24 [.int .i64 0] := hB0_2
  have e0 : Ext0 w w0_2 := (hE0_0.trans hE0_1).trans hE0_2
  refine CW.seq (fun K1 h1 => ?_)
  refine CW.region ?_
  refine r_move rfl ?_
  refine r_move rfl ?_
  refine r_build rfl Try.underlying67 Try.zeroValue67 rfl (pl := [(0, 1), (1, 1)]) (by intro w; simp [go_sem]) rfl ?_
  refine r_alloc rfl Try.zeroValue67 rfl ?_
  intro b2_3 w2_3 hb2_3 hs2_3 hE2_3 hB2_3
  refine r_storeA Try.sizeOf67 rfl (by simp only [upd_get, ev, Nat.reduceEqDiff, ↓reduceIte] <;> rfl) rfl rfl rfl hB2_3 (by decide) ?_
  intro w2_4 hs2_4 hE2_4 hB2_4
  refine LW.nil ?_
  refine thenE_norm ?_
  refine cut (K := K1) [2, 6, 7, 8, 9] (fun σ => ?_)
  simp only [setL, keepE, upd_get, ev, Nat.reduceEqDiff, ↓reduceIte]
  refine h1 _ _ ?_; clear h1; try clear K1
  refine CW.seq (fun K2 h2 => ?_)
  have kr : Blk w2_4 b2_3 67 [.slice ao xs.length cap, .int .i64 at_] := hB2_4
  have e2 : Ext0 w0_2 w2_4 := hE2_3.transN hE2_4 (fun x hx => by omega)
  have hv2 : Bs (fun b => b < w.heap.size) w2_4 (.slice ao xs.length cap) xs := hv0.up0 (e0.trans e2)
  refine CW.region ?_
  refine r_call rfl Try.call49 rfl (take_ok at_ 1 _ hv2 kr (by decide) hr) ?_
  rintro _ w3 ⟨v3, rfl, hv3, hE3, kr3⟩
  refine ⟨_, rfl, ?_⟩
  obtain ⟨ao3, cap3, rfl, hl3, hm39, hc3⟩ := (hv3 (by omega)).cell
  have hlen : ((xs.drop at_.toNat).take (1 : Int).toNat).length = 1 := by unfold roomM at hr; simp; omega
  obtain ⟨q, o, rfl, hq, hcl⟩ := hc3.resolve_left (by intro h; rw [h] at hlen; simp at hlen)
  have hl0 := hcl 0 (by omega)
  rw [show ((xs.drop at_.toNat).take (1 : Int).toNat).getD 0 0 = xs.getD at_.toNat 0 from by simp] at hl0
  have hu8 := UInt8.toNat_lt (xs.getD at_.toNat 0)
  have j0 := (k0.up0 hE2_3).up hE2_4 (by omega) |>.up hE3 (by omega)
  have j1 := (k1.up0 hE2_3).up hE2_4 (by omega) |>.up hE3 (by omega)
  have j2 := (k2.up0 hE2_3).up hE2_4 (by omega) |>.up hE3 (by omega)
  have e3 : Ext0 w w3 := (e0.trans e2).transN hE3 (fun x hx => by omega)
  refine r_indexAddr rfl Try.underlying23 Try.sizeOf5 rfl rfl (by decide) (by rw [hlen]; decide) ?_
  refine r_load rfl Try.isAgg5 rfl hl0 ?_
  refine r_convI rfl Try.underlying5 Try.underlying3 rfl (wr_i64 (by omega) (by omega)) ?_
  refine r_assign rfl ?_
  refine LW.nil ?_
  refine thenE_norm (h2 _ _ ?_); clear h2; try clear K2
  refine CW.seq (fun K3 h3 => ?_)
  refine CW.seq (fun K4 h4 => ?_)
  refine CW.region ?_
  refine r_move rfl ?_
  refine r_move rfl ?_
  refine r_gtr rfl rfl rfl ?_
  refine LW.nil ?_
  refine thenE_norm ?_
  refine cut (K := K4) [6, 7, 8, 9, 10, 21] (fun σ => ?_)
  simp only [setL, keepE, upd_get, ev, Nat.reduceEqDiff, ↓reduceIte]
  refine h4 _ _ ?_; clear h4; try clear K4
  refine CW.condF rfl (by first | rfl | (simp only [decide_eq_true_eq, decide_eq_false_iff_not, Bool.and_eq_true, Bool.or_eq_true, Bool.and_eq_false_iff, Bool.or_eq_false_iff, Bool.not_eq_true', Bool.not_eq_false', beq_iff_eq, bne_iff_ne]; omega) | simp_all) ?_
  refine CW.skip ?_
  refine thenE_norm (h3 _ _ ?_); clear h3; try clear K3
  refine CW.seq (fun K5 h5 => ?_)
  refine CW.region ?_
  refine r_move rfl ?_
  refine r_callP rfl Try.call49 rfl (take_fail (at_ + 1) _ _ (hv2.up hE3 (fun b hb e => by omega)) kr3 (by omega) hr2) ?_
  rintro _ w6 ⟨rfl, hE6⟩
  refine .inr ⟨_, rfl, thenE_pan (?_)⟩
  have i0 := j0.up0 hE6
  have i1 := j1.up0 hE6
  have i2 := j2.up0 hE6
  have e6 : Ext0 w w6 := e3.trans hE6
  intro tmps ht
  refine leaves_pan (v0 := faultV 2) Try.call48 (Text_catch b0_0 b0_1 b0_2 2 w6 _ _ _ i0 i1 i2 (by omega) (by omega) (by omega)) (fun w' hT => ⟨_, resC3 Try.results20 ht rfl rfl rfl Try.isAgg9 Try.isAgg3 Try.isAgg24 hT.2.1 hT.2.2.1 hT.2.2.2, rfl, e6.transN hT.1 (fun x hx => by rcases hx with rfl | rfl | rfl <;> omega)⟩)

theorem Text_ok {F : Nat → Prop} {v : Value} {xs : List UInt8} (at_ most : Int) (w : World) (hv : Bs F w v xs) (hr : roomM xs at_ 1) (hm : (xs.getD at_.toNat 0).toNat ≤ most) (hr2 : roomM xs (at_ + 1) (xs.getD at_.toNat 0).toNat) :
    Calls Try.prog 20 #[v, .int .i64 at_, .int .i64 most] w fun e w' => e = .returned (.tuple #[.string ⟨((xs.drop (at_ + 1).toNat).take ((xs.getD at_.toNat 0).toNat : Int).toNat).toArray⟩, .int .i64 (at_ + 1 + (xs.getD at_.toNat 0).toNat), .int .i64 0]) ∧ Ext0 w w' := by
  have hv0 : Bs (fun b => b < w.heap.size) w v xs := Sl.mono hv (fun b hb _ => hb)
  obtain ⟨ao, cap, rfl, hl, hm9, -⟩ := hv0.cell
  refine calls_of_CWD Try.func20 rfl Try.ntmps20 (Nat.le_of_ble_eq_true rfl) rfl ?_
  simp only [argE, argFrom, Nat.reduceAdd]
  refine CW.region ?_
  refine r_alloc rfl Try.zeroValue9 rfl ?_
  intro b0_0 w0_0 hb0_0 hs0_0 hE0_0 hB0_0
  refine r_alloc rfl Try.zeroValue3 rfl ?_
  intro b0_1 w0_1 hb0_1 hs0_1 hE0_1 hB0_1
  refine r_alloc rfl Try.zeroValue24 rfl ?_
  intro b0_2 w0_2 hb0_2 hs0_2 hE0_2 hB0_2
  refine LW.nil ?_
  refine thenE_norm ⟨_, rfl, ?_⟩
  have k0 : Blk w0_2 b0_0 9 [.string (ByteArray.mk #[])] := ((show Blk w0_0 b0_0 9 [.string (ByteArray.mk #[])] from hB0_0).up0 hE0_1).up0 hE0_2
  have k1 : Blk w0_2 b0_1 3 [.int .i64 0] := (show Blk w0_1 b0_1 3 [.int .i64 0] from hB0_1).up0 hE0_2
  have k2 : Blk w0_2 b0_2 24 [.int .i64 0] := hB0_2
  have e0 : Ext0 w w0_2 := (hE0_0.trans hE0_1).trans hE0_2
  refine CW.seq (fun K1 h1 => ?_)
  refine CW.region ?_
  refine r_move rfl ?_
  refine r_move rfl ?_
  refine r_build rfl Try.underlying67 Try.zeroValue67 rfl (pl := [(0, 1), (1, 1)]) (by intro w; simp [go_sem]) rfl ?_
  refine r_alloc rfl Try.zeroValue67 rfl ?_
  intro b2_3 w2_3 hb2_3 hs2_3 hE2_3 hB2_3
  refine r_storeA Try.sizeOf67 rfl (by simp only [upd_get, ev, Nat.reduceEqDiff, ↓reduceIte] <;> rfl) rfl rfl rfl hB2_3 (by decide) ?_
  intro w2_4 hs2_4 hE2_4 hB2_4
  refine LW.nil ?_
  refine thenE_norm ?_
  refine cut (K := K1) [2, 6, 7, 8, 9] (fun σ => ?_)
  simp only [setL, keepE, upd_get, ev, Nat.reduceEqDiff, ↓reduceIte]
  refine h1 _ _ ?_; clear h1; try clear K1
  refine CW.seq (fun K2 h2 => ?_)
  have kr : Blk w2_4 b2_3 67 [.slice ao xs.length cap, .int .i64 at_] := hB2_4
  have e2 : Ext0 w0_2 w2_4 := hE2_3.transN hE2_4 (fun x hx => by omega)
  have hv2 : Bs (fun b => b < w.heap.size) w2_4 (.slice ao xs.length cap) xs := hv0.up0 (e0.trans e2)
  refine CW.region ?_
  refine r_call rfl Try.call49 rfl (take_ok at_ 1 _ hv2 kr (by decide) hr) ?_
  rintro _ w3 ⟨v3, rfl, hv3, hE3, kr3⟩
  refine ⟨_, rfl, ?_⟩
  obtain ⟨ao3, cap3, rfl, hl3, hm39, hc3⟩ := (hv3 (by omega)).cell
  have hlen : ((xs.drop at_.toNat).take (1 : Int).toNat).length = 1 := by unfold roomM at hr; simp; omega
  obtain ⟨q, o, rfl, hq, hcl⟩ := hc3.resolve_left (by intro h; rw [h] at hlen; simp at hlen)
  have hl0 := hcl 0 (by omega)
  rw [show ((xs.drop at_.toNat).take (1 : Int).toNat).getD 0 0 = xs.getD at_.toNat 0 from by simp] at hl0
  have hu8 := UInt8.toNat_lt (xs.getD at_.toNat 0)
  have j0 := (k0.up0 hE2_3).up hE2_4 (by omega) |>.up hE3 (by omega)
  have j1 := (k1.up0 hE2_3).up hE2_4 (by omega) |>.up hE3 (by omega)
  have j2 := (k2.up0 hE2_3).up hE2_4 (by omega) |>.up hE3 (by omega)
  have e3 : Ext0 w w3 := (e0.trans e2).transN hE3 (fun x hx => by omega)
  refine r_indexAddr rfl Try.underlying23 Try.sizeOf5 rfl rfl (by decide) (by rw [hlen]; decide) ?_
  refine r_load rfl Try.isAgg5 rfl hl0 ?_
  refine r_convI rfl Try.underlying5 Try.underlying3 rfl (wr_i64 (by omega) (by omega)) ?_
  refine r_assign rfl ?_
  refine LW.nil ?_
  refine thenE_norm (h2 _ _ ?_); clear h2; try clear K2
  refine CW.seq (fun K3 h3 => ?_)
  refine CW.seq (fun K4 h4 => ?_)
  refine CW.region ?_
  refine r_move rfl ?_
  refine r_move rfl ?_
  refine r_gtr rfl rfl rfl ?_
  refine LW.nil ?_
  refine thenE_norm ?_
  refine cut (K := K4) [6, 7, 8, 9, 10, 21] (fun σ => ?_)
  simp only [setL, keepE, upd_get, ev, Nat.reduceEqDiff, ↓reduceIte]
  refine h4 _ _ ?_; clear h4; try clear K4
  refine CW.condF rfl (by first | rfl | (simp only [decide_eq_true_eq, decide_eq_false_iff_not, Bool.and_eq_true, Bool.or_eq_true, Bool.and_eq_false_iff, Bool.or_eq_false_iff, Bool.not_eq_true', Bool.not_eq_false', beq_iff_eq, bne_iff_ne]; omega) | simp_all) ?_
  refine CW.skip ?_
  refine thenE_norm (h3 _ _ ?_); clear h3; try clear K3
  refine CW.seq (fun K5 h5 => ?_)
  refine CW.region ?_
  refine r_move rfl ?_
  refine r_call rfl Try.call49 rfl (take_ok (at_ + 1) _ _ (hv2.up hE3 (fun b hb e => by omega)) kr3 (by omega) hr2) ?_
  rintro _ w6 ⟨v6, rfl, hv6, hE6, kr6⟩
  refine ⟨_, rfl, ?_⟩
  have i0 := j0.up hE6 (by omega)
  have i1 := j1.up hE6 (by omega)
  have i2 := j2.up hE6 (by omega)
  have e6 : Ext0 w w6 := e3.transN hE6 (fun x hx => by omega)
  have hlen6 : ((xs.drop (at_ + 1).toNat).take ((xs.getD at_.toNat 0).toNat : Int).toNat).length = ((xs.getD at_.toNat 0).toNat : Int).toNat := by unfold roomM at hr2; rw [List.length_take, List.length_drop]; omega
  refine r_b2s rfl Try.underlying23 Try.underlying5 Try.underlying9 rfl (hv6 (by omega)) rfl ?_
  skip
  refine r_store Try.sizeOf9 rfl (by simp only [upd_get, ev, Nat.reduceEqDiff, ↓reduceIte] <;> rfl) rfl i0 (by simp) ?_
  intro w6_3 hs6_3 hE6_3 hB6_3
  try simp only [Nat.zero_add, Nat.mul_one] at hB6_3
  refine LW.nil ?_
  refine thenE_norm (h5 _ _ ?_); clear h5; try clear K5
  refine CW.seq (fun K6 h6 => ?_)
  have y0 : Blk w6_3 b0_0 9 [.string ⟨((xs.drop (at_ + 1).toNat).take ((xs.getD at_.toNat 0).toNat : Int).toNat).toArray⟩] := hB6_3
  have y1 := i1.up hE6_3 (by omega)
  have y2 := i2.up hE6_3 (by omega)
  have yr := kr6.up hE6_3 (by omega)
  have e7 : Ext0 w w6_3 := e6.transN hE6_3 (fun x hx => by omega)
  refine CW.draw (fun u => Blk u b2_3 67 [.slice ao xs.length cap, .int .i64 (at_ + 1 + (xs.getD at_.toNat 0).toNat)] ∧ Blk u b0_0 9 [.string ⟨((xs.drop (at_ + 1).toNat).take ((xs.getD at_.toNat 0).toNat : Int).toNat).toArray⟩]) (by kernel_rfl) rfl (fun w7d hh7d hE7d => ?_)
  refine DW.take (i := 0) rfl (by kernel_rfl) (by kernel_rfl) (by kernel_rfl) rfl rfl (fun u hu => x_load Try.isAgg9 rfl (hu.2.cell (o := 0) rfl)) ⟨yr.up0 hE7d, y0.up0 hE7d⟩ ?_
  refine DW.take (i := 1) rfl (by kernel_rfl) (by kernel_rfl) (by kernel_rfl) rfl rfl (fun u hu => x_fieldAddr Try.underlying67 rfl Try.sizeOf3 (by decide) rfl) ⟨yr.up0 hE7d, y0.up0 hE7d⟩ ?_
  refine DW.take (i := 2) rfl (by kernel_rfl) (by kernel_rfl) (by kernel_rfl) rfl rfl (fun u hu => x_load Try.isAgg3 rfl (hu.1.cell (o := 1) rfl)) ⟨yr.up0 hE7d, y0.up0 hE7d⟩ ?_
  refine DW.one (i := 3) (by kernel_rfl) rfl rfl ?_
  refine r_store Try.sizeOf9 rfl (by simp only [upd_get, ev, Nat.reduceEqDiff, ↓reduceIte] <;> rfl) rfl (y0.up0 hE7d) (by simp) ?_
  intro w7_3 hs7_3 hE7_3 hB7_3
  try simp only [Nat.zero_add, Nat.mul_one] at hB7_3
  refine LW.nil (thenE_norm ⟨⟨(yr.up0 hE7d).up hE7_3 (by omega), hB7_3⟩, ?_⟩)
  refine DW.one (i := 4) (by kernel_rfl) rfl rfl ?_
  refine r_store Try.sizeOf3 rfl (by simp only [upd_get, ev, Nat.reduceEqDiff, ↓reduceIte] <;> rfl) rfl ((y1.up0 hE7d).up hE7_3 (by omega)) (by simp) ?_
  intro w7_4 hs7_4 hE7_4 hB7_4
  try simp only [Nat.zero_add, Nat.mul_one] at hB7_4
  refine LW.nil (thenE_norm ⟨⟨((yr.up0 hE7d).up hE7_3 (by omega)).up hE7_4 (by omega), hB7_3.up hE7_4 (by omega)⟩, ?_⟩)
  refine DW.one (i := 5) (by kernel_rfl) rfl rfl ?_
  refine r_store Try.sizeOf24 rfl (by simp only [upd_get, ev, Nat.reduceEqDiff, ↓reduceIte] <;> rfl) rfl (((y2.up0 hE7d).up hE7_3 (by omega)).up hE7_4 (by omega)) (by simp) ?_
  intro w7_5 hs7_5 hE7_5 hB7_5
  try simp only [Nat.zero_add, Nat.mul_one] at hB7_5
  refine LW.nil (thenE_norm ⟨⟨(((yr.up0 hE7d).up hE7_3 (by omega)).up hE7_4 (by omega)).up hE7_5 (by omega), (hB7_3.up hE7_4 (by omega)).up hE7_5 (by omega)⟩, ?_⟩)
  refine DW.done (by kernel_rfl) ?_
  refine thenE_norm ?_
  refine cut (K := K6) [6, 7, 8] (fun σ => ?_)
  simp only [setL, keepE, upd_get, ev, Nat.reduceEqDiff, ↓reduceIte]
  refine h6 _ _ ?_; clear h6; try clear K6
  refine CW.ret (?_)
  intro tmps ht
  have r0 : Blk w7_5 b0_0 9 [.string ⟨((xs.drop (at_ + 1).toNat).take ((xs.getD at_.toNat 0).toNat : Int).toNat).toArray⟩] := (hB7_3.up hE7_4 (by omega)).up hE7_5 (by omega)
  have r1 : Blk w7_5 b0_1 3 [.int .i64 (at_ + 1 + (xs.getD at_.toNat 0).toNat)] := hB7_4.up hE7_5 (by omega)
  have r2 : Blk w7_5 b0_2 24 [.int .i64 0] := hB7_5
  have e4 : Ext0 w w7_5 := (((e7.trans hE7d).transN hE7_3 (fun x hx => by omega)).transN hE7_4 (fun x hx => by omega)).transN hE7_5 (fun x hx => by omega)
  exact leaves_ret Try.call48 (Text_idle b0_0 b0_1 b0_2 w7_5) (fun w' hE => ⟨_, resC3 Try.results20 ht rfl rfl rfl Try.isAgg9 Try.isAgg3 Try.isAgg24 (r0.up0 hE) (r1.up0 hE) (r2.up0 hE), rfl, e4.trans hE⟩)

theorem Byte_c {F : Nat → Prop} {v : Value} {xs : List UInt8} (at_ : Int) (w : World) (hv : Bs F w v xs) :
    Calls Try.prog 29 #[v, .int .i64 at_] w fun e w' => e = .returned (.tuple #[.int .i64 (byteM xs at_).1, .int .i64 (byteM xs at_).2.1, .int .i64 (byteM xs at_).2.2]) ∧ Ext0 w w' := by
  by_cases h : roomM xs at_ 1
  · rw [byteM, if_pos h]; exact Byte_ok at_ w hv h
  · rw [byteM, if_neg h]; exact Byte_short at_ w hv h

theorem Num_c {F : Nat → Prop} {v : Value} {xs : List UInt8} (at_ : Int) (w : World) (hv : Bs F w v xs) :
    Calls Try.prog 24 #[v, .int .i64 at_] w fun e w' => e = .returned (.tuple #[.int .i64 (numM xs at_).1, .int .i64 (numM xs at_).2.1, .int .i64 (numM xs at_).2.2]) ∧ Ext0 w w' := by
  by_cases h : roomM xs at_ 8
  · have hr := h
    unfold roomM at hr
    have hb := be_first ((xs.drop at_.toNat).take 8) (by simp; omega)
    rw [show ((xs.drop at_.toNat).take 8).getD 0 0 = xs.getD at_.toNat 0 from by simp] at hb
    by_cases h2 : (xs.getD at_.toNat 0).toNat < 64
    · rw [numM, if_pos h, if_pos h2]; exact Num_ok at_ w hv h (by simpa using hb.1 h2)
    · rw [numM, if_pos h, if_neg h2]; exact Num_form at_ w hv h (by simpa using hb.2 (by omega))
  · rw [numM, if_neg h]; exact Num_short at_ w hv h

theorem Text_c {F : Nat → Prop} {v : Value} {xs : List UInt8} (at_ most : Int) (w : World) (hv : Bs F w v xs) :
    Calls Try.prog 20 #[v, .int .i64 at_, .int .i64 most] w fun e w' => e = .returned (.tuple #[.string ⟨(textM xs at_ most).1.toArray⟩, .int .i64 (textM xs at_ most).2.1, .int .i64 (textM xs at_ most).2.2]) ∧ Ext0 w w' := by
  by_cases h : roomM xs at_ 1
  · have hr := h
    unfold roomM at hr
    have hb : byteM xs at_ = (((xs.getD at_.toNat 0).toNat : Int), at_ + 1, 0) := by rw [byteM, if_pos h]
    rw [textM, hb, if_neg (by simp)]
    by_cases h2 : most < ((xs.getD at_.toNat 0).toNat : Int)
    · rw [if_pos h2]; exact Text_long at_ most w hv h h2
    · rw [if_neg h2]
      by_cases h3 : roomM xs (at_ + 1) ((xs.getD at_.toNat 0).toNat : Int)
      · rw [if_pos h3]
        have := Text_ok at_ most w hv h (by omega) h3
        rw [show (at_ + 1).toNat = at_.toNat + 1 from by omega] at this
        exact this
      · rw [if_neg h3]; exact Text_cut at_ most w hv h (by omega) h3
  · rw [textM, if_pos (by rw [byteM, if_neg h]; simp)]; exact Text_short at_ most w hv h
end Go.Proofs.Ytgcmafgcigipdaa
