/-
  The walks of layer 1's functions: the reader, whose failure is a panic that a deferred function catches.
-/
import Derived.Test.YtgcmafgcigipdaaVOctetB
import Derived.Test.YtgcmafgcigipdaaVDraw
namespace Go.Proofs.Ytgcmafgcigipdaa
set_option linter.unusedSimpArgs false
set_option linter.unusedVariables false
set_option maxRecDepth 20000
open Go.V Go.RowKit

def faultV (c : Int) : Value := .iface 64 (.agg #[.int .i64 c])

theorem take_ok {F : Nat → Prop} {v : Value} {xs : List UInt8} {p : Nat} (at_ n : Int) (w : World) (hv : Bs F w v xs) (hp : Blk w p 67 [v, .int .i64 at_]) (hn : 0 ≤ n) (hr : roomM xs at_ n) :
    Calls Try.prog 49 #[.pointer (some ⟨p, 0, none⟩), .int .i64 n] w fun e w' => ∃ v', e = .returned v' ∧ (¬ F p → Bs F w' v' ((xs.drop at_.toNat).take n.toNat)) ∧ Ext (fun b => b = p) w w' ∧ Blk w' p 67 [v, .int .i64 (at_ + n)] := by
  obtain ⟨ao, cap, rfl, hl, hm, -⟩ := hv.cell
  obtain ⟨r0, r1, r2⟩ := hr
  have c0 := hp.cell (o := 0) rfl
  have c1 := hp.cell (o := 1) rfl
  refine calls_of_CW Try.func49 rfl Try.ntmps49 (Nat.le_of_ble_eq_true rfl) ?_
  simp only [argE, argFrom, Nat.reduceAdd]
  refine CW.seq (fun K1 h1 => ?_)
  refine CW.region ?_
  refine r_assign rfl ?_
  refine LW.nil ?_
  refine thenE_norm (h1 _ _ ?_); clear h1; try clear K1
  refine CW.seq (fun K2 h2 => ?_)
  refine CW.seq (fun K3 h3 => ?_)
  refine CW.draw (fun u => Ext Non w u) (by kernel_rfl) rfl (fun w1d hh1d hE1d => ?_)
  refine DW.take (i := 0) rfl (by kernel_rfl) (by kernel_rfl) (by kernel_rfl) rfl rfl (fun u hu => x_move ) hE1d ?_
  refine DW.take (i := 1) rfl (by kernel_rfl) (by kernel_rfl) (by kernel_rfl) rfl rfl (fun u hu => x_nilCheck rfl) hE1d ?_
  refine DW.take (i := 2) rfl (by kernel_rfl) (by kernel_rfl) (by kernel_rfl) rfl rfl (fun u hu => x_fieldAddr Try.underlying67 rfl Try.sizeOf3 (by decide) rfl) hE1d ?_
  refine DW.take (i := 3) rfl (by kernel_rfl) (by kernel_rfl) (by kernel_rfl) rfl rfl (fun u hu => x_load Try.isAgg3 rfl (hu.cell0 c1)) hE1d ?_
  refine DW.take (i := 4) rfl (by kernel_rfl) (by kernel_rfl) (by kernel_rfl) rfl rfl (fun u hu => x_lss rfl rfl) hE1d ?_
  refine DW.take (i := 5) rfl (by kernel_rfl) (by kernel_rfl) (by kernel_rfl) rfl rfl (fun u hu => x_move ) hE1d ?_
  refine DW.known (t := 11) (c := false) rfl (by simp; omega) (fun hg1_5 => ?_)
  refine DW.take (i := 6) rfl (by kernel_rfl) (by kernel_rfl) (by kernel_rfl) rfl (wantE rfl rfl hg1_5) (fun u hu => x_move ) hE1d ?_
  refine DW.take (i := 7) rfl (by kernel_rfl) (by kernel_rfl) (by kernel_rfl) rfl (wantE rfl rfl hg1_5) (fun u hu => x_nilCheck rfl) hE1d ?_
  refine DW.take (i := 8) rfl (by kernel_rfl) (by kernel_rfl) (by kernel_rfl) rfl (wantE rfl rfl hg1_5) (fun u hu => x_fieldAddr Try.underlying67 rfl Try.sizeOf3 (by decide) rfl) hE1d ?_
  refine DW.take (i := 9) rfl (by kernel_rfl) (by kernel_rfl) (by kernel_rfl) rfl (wantE rfl rfl hg1_5) (fun u hu => x_load Try.isAgg3 rfl (hu.cell0 c1)) hE1d ?_
  refine DW.take (i := 10) rfl (by kernel_rfl) (by kernel_rfl) (by kernel_rfl) rfl (wantE rfl rfl hg1_5) (fun u hu => x_move ) hE1d ?_
  refine DW.take (i := 11) rfl (by kernel_rfl) (by kernel_rfl) (by kernel_rfl) rfl (wantE rfl rfl hg1_5) (fun u hu => x_nilCheck rfl) hE1d ?_
  refine DW.take (i := 12) rfl (by kernel_rfl) (by kernel_rfl) (by kernel_rfl) rfl (wantE rfl rfl hg1_5) (fun u hu => x_fieldAddr Try.underlying67 rfl Try.sizeOf23 (by decide) rfl) hE1d ?_
  refine DW.take (i := 13) rfl (by kernel_rfl) (by kernel_rfl) (by kernel_rfl) rfl (wantE rfl rfl hg1_5) (fun u hu => x_load Try.isAgg23 rfl (hu.cell0 c0)) hE1d ?_
  refine DW.take (i := 14) rfl (by kernel_rfl) (by kernel_rfl) (by kernel_rfl) rfl (wantE rfl rfl hg1_5) (fun u hu => x_len Try.underlying23 rfl) hE1d ?_
  refine DW.take (i := 15) rfl (by kernel_rfl) (by kernel_rfl) (by kernel_rfl) rfl (wantE rfl rfl hg1_5) (fun u hu => x_gtr rfl rfl) hE1d ?_
  refine DW.take (i := 16) rfl (by kernel_rfl) (by kernel_rfl) (by kernel_rfl) rfl rfl (fun u hu => x_pickF rfl hg1_5) hE1d ?_
  refine DW.take (i := 17) rfl (by kernel_rfl) (by kernel_rfl) (by kernel_rfl) rfl rfl (fun u hu => x_move ) hE1d ?_
  refine DW.known (t := 23) (c := false) rfl (by simp; omega) (fun hg1_17 => ?_)
  refine DW.take (i := 18) rfl (by kernel_rfl) (by kernel_rfl) (by kernel_rfl) rfl (wantE rfl rfl hg1_17) (fun u hu => x_move ) hE1d ?_
  refine DW.take (i := 19) rfl (by kernel_rfl) (by kernel_rfl) (by kernel_rfl) rfl (wantE rfl rfl hg1_17) (fun u hu => x_nilCheck rfl) hE1d ?_
  refine DW.take (i := 20) rfl (by kernel_rfl) (by kernel_rfl) (by kernel_rfl) rfl (wantE rfl rfl hg1_17) (fun u hu => x_fieldAddr Try.underlying67 rfl Try.sizeOf23 (by decide) rfl) hE1d ?_
  refine DW.take (i := 21) rfl (by kernel_rfl) (by kernel_rfl) (by kernel_rfl) rfl (wantE rfl rfl hg1_17) (fun u hu => x_load Try.isAgg23 rfl (hu.cell0 c0)) hE1d ?_
  refine DW.take (i := 22) rfl (by kernel_rfl) (by kernel_rfl) (by kernel_rfl) rfl (wantE rfl rfl hg1_17) (fun u hu => x_len Try.underlying23 rfl) hE1d ?_
  refine DW.take (i := 23) rfl (by kernel_rfl) (by kernel_rfl) (by kernel_rfl) rfl (wantE rfl rfl hg1_17) (fun u hu => x_move ) hE1d ?_
  refine DW.take (i := 24) rfl (by kernel_rfl) (by kernel_rfl) (by kernel_rfl) rfl (wantE rfl rfl hg1_17) (fun u hu => x_nilCheck rfl) hE1d ?_
  refine DW.take (i := 25) rfl (by kernel_rfl) (by kernel_rfl) (by kernel_rfl) rfl (wantE rfl rfl hg1_17) (fun u hu => x_fieldAddr Try.underlying67 rfl Try.sizeOf3 (by decide) rfl) hE1d ?_
  refine DW.take (i := 26) rfl (by kernel_rfl) (by kernel_rfl) (by kernel_rfl) rfl (wantE rfl rfl hg1_17) (fun u hu => x_load Try.isAgg3 rfl (hu.cell0 c1)) hE1d ?_
  refine DW.take (i := 27) rfl (by kernel_rfl) (by kernel_rfl) (by kernel_rfl) rfl (wantE rfl rfl hg1_17) (fun u hu => x_sub rfl rfl (wr_i64 (by omega) (by omega))) hE1d ?_
  refine DW.take (i := 28) rfl (by kernel_rfl) (by kernel_rfl) (by kernel_rfl) rfl (wantE rfl rfl hg1_17) (fun u hu => x_move ) hE1d ?_
  refine DW.take (i := 29) rfl (by kernel_rfl) (by kernel_rfl) (by kernel_rfl) rfl (wantE rfl rfl hg1_17) (fun u hu => x_lss rfl rfl) hE1d ?_
  refine DW.take (i := 30) rfl (by kernel_rfl) (by kernel_rfl) (by kernel_rfl) rfl rfl (fun u hu => x_pickF rfl hg1_17) hE1d ?_
  refine DW.done (by kernel_rfl) ?_
  refine thenE_norm ?_
  refine cut (K := K3) [0, 1, 36] (fun σ => ?_)
  simp only [setL, keepE, upd_get, ev, Nat.reduceEqDiff, ↓reduceIte]
  refine h3 _ _ ?_; clear h3; try clear K3
  refine CW.condF rfl (by simp; omega) ?_
  refine CW.skip ?_
  refine thenE_norm (h2 _ _ ?_); clear h2; try clear K2
  refine CW.seq (fun K4 h4 => ?_)
  refine CW.draw (fun u => Ext Non w u) (by kernel_rfl) rfl (fun w3d hh3d hE3d => ?_)
  refine DW.take (i := 0) rfl (by kernel_rfl) (by kernel_rfl) (by kernel_rfl) rfl rfl (fun u hu => x_move ) (hE1d.trans hE3d) ?_
  refine DW.take (i := 1) rfl (by kernel_rfl) (by kernel_rfl) (by kernel_rfl) rfl rfl (fun u hu => x_nilCheck rfl) (hE1d.trans hE3d) ?_
  refine DW.take (i := 2) rfl (by kernel_rfl) (by kernel_rfl) (by kernel_rfl) rfl rfl (fun u hu => x_fieldAddr Try.underlying67 rfl Try.sizeOf23 (by decide) rfl) (hE1d.trans hE3d) ?_
  refine DW.take (i := 3) rfl (by kernel_rfl) (by kernel_rfl) (by kernel_rfl) rfl rfl (fun u hu => x_load Try.isAgg23 rfl (hu.cell0 c0)) (hE1d.trans hE3d) ?_
  refine DW.take (i := 4) rfl (by kernel_rfl) (by kernel_rfl) (by kernel_rfl) rfl rfl (fun u hu => x_move ) (hE1d.trans hE3d) ?_
  refine DW.take (i := 5) rfl (by kernel_rfl) (by kernel_rfl) (by kernel_rfl) rfl rfl (fun u hu => x_nilCheck rfl) (hE1d.trans hE3d) ?_
  refine DW.take (i := 6) rfl (by kernel_rfl) (by kernel_rfl) (by kernel_rfl) rfl rfl (fun u hu => x_fieldAddr Try.underlying67 rfl Try.sizeOf3 (by decide) rfl) (hE1d.trans hE3d) ?_
  refine DW.take (i := 7) rfl (by kernel_rfl) (by kernel_rfl) (by kernel_rfl) rfl rfl (fun u hu => x_load Try.isAgg3 rfl (hu.cell0 c1)) (hE1d.trans hE3d) ?_
  refine DW.take (i := 8) rfl (by kernel_rfl) (by kernel_rfl) (by kernel_rfl) rfl rfl (fun u hu => x_move ) (hE1d.trans hE3d) ?_
  refine DW.take (i := 9) rfl (by kernel_rfl) (by kernel_rfl) (by kernel_rfl) rfl rfl (fun u hu => x_nilCheck rfl) (hE1d.trans hE3d) ?_
  refine DW.take (i := 10) rfl (by kernel_rfl) (by kernel_rfl) (by kernel_rfl) rfl rfl (fun u hu => x_fieldAddr Try.underlying67 rfl Try.sizeOf3 (by decide) rfl) (hE1d.trans hE3d) ?_
  refine DW.take (i := 11) rfl (by kernel_rfl) (by kernel_rfl) (by kernel_rfl) rfl rfl (fun u hu => x_load Try.isAgg3 rfl (hu.cell0 c1)) (hE1d.trans hE3d) ?_
  refine DW.take (i := 12) rfl (by kernel_rfl) (by kernel_rfl) (by kernel_rfl) rfl rfl (fun u hu => x_move ) (hE1d.trans hE3d) ?_
  refine DW.take (i := 13) rfl (by kernel_rfl) (by kernel_rfl) (by kernel_rfl) rfl rfl (fun u hu => x_add rfl rfl (wr_i64 (by omega) (by omega))) (hE1d.trans hE3d) ?_
  refine DW.take (i := 14) rfl (by kernel_rfl) (by kernel_rfl) (by kernel_rfl) rfl rfl (fun u hu => x_sliceLH Try.underlying23 Try.sizeOf5 rfl rfl rfl r0 (by omega) (by omega)) (hE1d.trans hE3d) ?_
  refine DW.take (i := 15) rfl (by kernel_rfl) (by kernel_rfl) (by kernel_rfl) rfl rfl (fun u hu => x_assign ) (hE1d.trans hE3d) ?_
  refine DW.done (by kernel_rfl) ?_
  refine thenE_norm ?_
  refine cut (K := K4) [0, 1, 5] (fun σ => ?_)
  simp only [setL, keepE, upd_get, ev, Nat.reduceEqDiff, ↓reduceIte]
  refine h4 _ _ ?_; clear h4; try clear K4
  refine CW.seq (fun K5 h5 => ?_)
  have hE4 : Ext0 w w3d := hE1d.trans hE3d
  have hp4 := hp.up0 hE4
  have c14 := hp4.cell (o := 1) rfl
  refine CW.region ?_
  refine r_move rfl ?_
  refine r_nilCheck rfl rfl ?_
  refine r_fieldAddr rfl Try.underlying67 rfl Try.sizeOf3 (by decide) rfl ?_
  refine r_load rfl Try.isAgg3 rfl c14 ?_
  refine r_move rfl ?_
  refine r_add rfl rfl rfl (wr_i64 (by omega) (by omega)) ?_
  refine r_nilCheck rfl rfl ?_
  refine r_fieldAddr rfl Try.underlying67 rfl Try.sizeOf3 (by decide) rfl ?_
  refine r_store Try.sizeOf3 rfl (by simp only [upd_get, ev, Nat.reduceEqDiff, ↓reduceIte] <;> rfl) rfl hp4 (by simp) ?_
  intro w4_8 hs4_8 hE4_8 hB4_8
  try simp only [Nat.zero_add, Nat.mul_one] at hB4_8
  refine LW.nil ?_
  refine thenE_norm ?_
  refine cut (K := K5) [5] (fun σ => ?_)
  simp only [setL, keepE, upd_get, ev, Nat.reduceEqDiff, ↓reduceIte]
  refine h5 _ _ ?_; clear h5; try clear K5
  refine CW.seq (fun K6 h6 => ?_)
  refine CW.region ?_
  refine r_move rfl ?_
  refine r_assign rfl ?_
  refine LW.nil ?_
  refine thenE_norm (h6 _ _ ?_); clear h6; try clear K6
  refine CW.ret (ret1 Try.results49 (by simp only [upd_get, ev, Nat.reduceEqDiff, ↓reduceIte]; rfl) ?_)
  refine ⟨_, rfl, fun hF => ?_, Ext.trans hE4 hE4_8 (fun _ _ h => h.elim) (fun _ _ h => h), hB4_8⟩
  have h1 := Sl.cut (s := 1) (Sl.up0 hv hE4) (by simp) at_.toNat (at_ + n).toNat (by omega) (by omega)
  unfold Bs
  rw [show ((xs.drop at_.toNat).take n.toNat).length = (at_ + n).toNat - at_.toNat from by simp; omega]
  simp only [Nat.mul_one] at h1 ⊢
  rw [List.map_take, List.map_drop, show n.toNat = (at_ + n).toNat - at_.toNat from by omega]
  exact h1.up hE4_8 (fun b hb e => hF (by rw [← e]; exact hb))

theorem take_fail {F : Nat → Prop} {v : Value} {xs : List UInt8} {p : Nat} (at_ n : Int) (w : World) (hv : Bs F w v xs) (hp : Blk w p 67 [v, .int .i64 at_]) (hn : 0 ≤ n) (hr : ¬ roomM xs at_ n) :
    Calls Try.prog 49 #[.pointer (some ⟨p, 0, none⟩), .int .i64 n] w fun e w' => e = .panicked [{ v := faultV 2, recovered := false }] ∧ Ext0 w w' := by
  obtain ⟨ao, cap, rfl, hl, hm, -⟩ := hv.cell
  unfold roomM at hr
  have c0 := hp.cell (o := 0) rfl
  have c1 := hp.cell (o := 1) rfl
  rcases (by omega : at_ < 0 ∨ (0 ≤ at_ ∧ (xs.length : Int) < at_) ∨ (0 ≤ at_ ∧ at_ ≤ xs.length ∧ xs.length - at_ < n)) with r0 | ⟨r0, r1⟩ | ⟨r0, r1, r2⟩
  · clear hr
    refine calls_of_CW Try.func49 rfl Try.ntmps49 (Nat.le_of_ble_eq_true rfl) ?_
    simp only [argE, argFrom, Nat.reduceAdd]
    refine CW.seq (fun K1 h1 => ?_)
    refine CW.region ?_
    refine r_assign rfl ?_
    refine LW.nil ?_
    refine thenE_norm (h1 _ _ ?_); clear h1; try clear K1
    refine CW.seq (fun K2 h2 => ?_)
    refine CW.seq (fun K3 h3 => ?_)
    refine CW.draw (fun u => Ext Non w u) (by kernel_rfl) rfl (fun w1d hh1d hE1d => ?_)
    refine DW.take (i := 0) rfl (by kernel_rfl) (by kernel_rfl) (by kernel_rfl) rfl rfl (fun u hu => x_move ) hE1d ?_
    refine DW.take (i := 1) rfl (by kernel_rfl) (by kernel_rfl) (by kernel_rfl) rfl rfl (fun u hu => x_nilCheck rfl) hE1d ?_
    refine DW.take (i := 2) rfl (by kernel_rfl) (by kernel_rfl) (by kernel_rfl) rfl rfl (fun u hu => x_fieldAddr Try.underlying67 rfl Try.sizeOf3 (by decide) rfl) hE1d ?_
    refine DW.take (i := 3) rfl (by kernel_rfl) (by kernel_rfl) (by kernel_rfl) rfl rfl (fun u hu => x_load Try.isAgg3 rfl (hu.cell0 c1)) hE1d ?_
    refine DW.take (i := 4) rfl (by kernel_rfl) (by kernel_rfl) (by kernel_rfl) rfl rfl (fun u hu => x_lss rfl rfl) hE1d ?_
    refine DW.take (i := 5) rfl (by kernel_rfl) (by kernel_rfl) (by kernel_rfl) rfl rfl (fun u hu => x_move ) hE1d ?_
    refine DW.known (t := 11) (c := true) rfl (by simp; omega) (fun hg1_5 => ?_)
    refine DW.skip (i := 6) rfl (by kernel_rfl) (by kernel_rfl) (by kernel_rfl) rfl (skipE rfl rfl hg1_5) hE1d ?_
    refine DW.skip (i := 7) rfl (by kernel_rfl) (by kernel_rfl) (by kernel_rfl) rfl (skipE rfl rfl hg1_5) hE1d ?_
    refine DW.skip (i := 8) rfl (by kernel_rfl) (by kernel_rfl) (by kernel_rfl) rfl (skipE rfl rfl hg1_5) hE1d ?_
    refine DW.skip (i := 9) rfl (by kernel_rfl) (by kernel_rfl) (by kernel_rfl) rfl (skipE rfl rfl hg1_5) hE1d ?_
    refine DW.skip (i := 10) rfl (by kernel_rfl) (by kernel_rfl) (by kernel_rfl) rfl (skipE rfl rfl hg1_5) hE1d ?_
    refine DW.skip (i := 11) rfl (by kernel_rfl) (by kernel_rfl) (by kernel_rfl) rfl (skipE rfl rfl hg1_5) hE1d ?_
    refine DW.skip (i := 12) rfl (by kernel_rfl) (by kernel_rfl) (by kernel_rfl) rfl (skipE rfl rfl hg1_5) hE1d ?_
    refine DW.skip (i := 13) rfl (by kernel_rfl) (by kernel_rfl) (by kernel_rfl) rfl (skipE rfl rfl hg1_5) hE1d ?_
    refine DW.skip (i := 14) rfl (by kernel_rfl) (by kernel_rfl) (by kernel_rfl) rfl (skipE rfl rfl hg1_5) hE1d ?_
    refine DW.skip (i := 15) rfl (by kernel_rfl) (by kernel_rfl) (by kernel_rfl) rfl (skipE rfl rfl hg1_5) hE1d ?_
    refine DW.take (i := 16) rfl (by kernel_rfl) (by kernel_rfl) (by kernel_rfl) rfl rfl (fun u hu => x_pickT rfl hg1_5) hE1d ?_
    refine DW.take (i := 17) rfl (by kernel_rfl) (by kernel_rfl) (by kernel_rfl) rfl rfl (fun u hu => x_move ) hE1d ?_
    refine DW.known (t := 23) (c := true) rfl rfl (fun hg1_17 => ?_)
    refine DW.skip (i := 18) rfl (by kernel_rfl) (by kernel_rfl) (by kernel_rfl) rfl (skipE rfl rfl hg1_17) hE1d ?_
    refine DW.skip (i := 19) rfl (by kernel_rfl) (by kernel_rfl) (by kernel_rfl) rfl (skipE rfl rfl hg1_17) hE1d ?_
    refine DW.skip (i := 20) rfl (by kernel_rfl) (by kernel_rfl) (by kernel_rfl) rfl (skipE rfl rfl hg1_17) hE1d ?_
    refine DW.skip (i := 21) rfl (by kernel_rfl) (by kernel_rfl) (by kernel_rfl) rfl (skipE rfl rfl hg1_17) hE1d ?_
    refine DW.skip (i := 22) rfl (by kernel_rfl) (by kernel_rfl) (by kernel_rfl) rfl (skipE rfl rfl hg1_17) hE1d ?_
    refine DW.skip (i := 23) rfl (by kernel_rfl) (by kernel_rfl) (by kernel_rfl) rfl (skipE rfl rfl hg1_17) hE1d ?_
    refine DW.skip (i := 24) rfl (by kernel_rfl) (by kernel_rfl) (by kernel_rfl) rfl (skipE rfl rfl hg1_17) hE1d ?_
    refine DW.skip (i := 25) rfl (by kernel_rfl) (by kernel_rfl) (by kernel_rfl) rfl (skipE rfl rfl hg1_17) hE1d ?_
    refine DW.skip (i := 26) rfl (by kernel_rfl) (by kernel_rfl) (by kernel_rfl) rfl (skipE rfl rfl hg1_17) hE1d ?_
    refine DW.skip (i := 27) rfl (by kernel_rfl) (by kernel_rfl) (by kernel_rfl) rfl (skipE rfl rfl hg1_17) hE1d ?_
    refine DW.skip (i := 28) rfl (by kernel_rfl) (by kernel_rfl) (by kernel_rfl) rfl (skipE rfl rfl hg1_17) hE1d ?_
    refine DW.skip (i := 29) rfl (by kernel_rfl) (by kernel_rfl) (by kernel_rfl) rfl (skipE rfl rfl hg1_17) hE1d ?_
    refine DW.take (i := 30) rfl (by kernel_rfl) (by kernel_rfl) (by kernel_rfl) rfl rfl (fun u hu => x_pickT rfl hg1_17) hE1d ?_
    refine DW.done (by kernel_rfl) ?_
    refine thenE_norm ?_
    refine cut (K := K3) [0, 1, 36] (fun σ => ?_)
    simp only [setL, keepE, upd_get, ev, Nat.reduceEqDiff, ↓reduceIte]
    refine h3 _ _ ?_; clear h3; try clear K3
    refine CW.condT rfl rfl ?_
    refine CW.region ?_
    refine r_build rfl Try.underlying64 Try.zeroValue64 rfl (pl := [(0, 1)]) (by intro w; simp [go_sem]) rfl ?_
    refine r_makeInterface rfl (by kernel_rfl) (by simp only [upd_get, ev, Nat.reduceEqDiff, ↓reduceIte] <;> rfl) ?_
    refine r_panic rfl (thenE_pan (?_))
    exact ⟨rfl, hE1d⟩
  · clear hr
    refine calls_of_CW Try.func49 rfl Try.ntmps49 (Nat.le_of_ble_eq_true rfl) ?_
    simp only [argE, argFrom, Nat.reduceAdd]
    refine CW.seq (fun K1 h1 => ?_)
    refine CW.region ?_
    refine r_assign rfl ?_
    refine LW.nil ?_
    refine thenE_norm (h1 _ _ ?_); clear h1; try clear K1
    refine CW.seq (fun K2 h2 => ?_)
    refine CW.seq (fun K3 h3 => ?_)
    refine CW.draw (fun u => Ext Non w u) (by kernel_rfl) rfl (fun w1d hh1d hE1d => ?_)
    refine DW.take (i := 0) rfl (by kernel_rfl) (by kernel_rfl) (by kernel_rfl) rfl rfl (fun u hu => x_move ) hE1d ?_
    refine DW.take (i := 1) rfl (by kernel_rfl) (by kernel_rfl) (by kernel_rfl) rfl rfl (fun u hu => x_nilCheck rfl) hE1d ?_
    refine DW.take (i := 2) rfl (by kernel_rfl) (by kernel_rfl) (by kernel_rfl) rfl rfl (fun u hu => x_fieldAddr Try.underlying67 rfl Try.sizeOf3 (by decide) rfl) hE1d ?_
    refine DW.take (i := 3) rfl (by kernel_rfl) (by kernel_rfl) (by kernel_rfl) rfl rfl (fun u hu => x_load Try.isAgg3 rfl (hu.cell0 c1)) hE1d ?_
    refine DW.take (i := 4) rfl (by kernel_rfl) (by kernel_rfl) (by kernel_rfl) rfl rfl (fun u hu => x_lss rfl rfl) hE1d ?_
    refine DW.take (i := 5) rfl (by kernel_rfl) (by kernel_rfl) (by kernel_rfl) rfl rfl (fun u hu => x_move ) hE1d ?_
    refine DW.known (t := 11) (c := false) rfl (by simp; omega) (fun hg1_5 => ?_)
    refine DW.take (i := 6) rfl (by kernel_rfl) (by kernel_rfl) (by kernel_rfl) rfl (wantE rfl rfl hg1_5) (fun u hu => x_move ) hE1d ?_
    refine DW.take (i := 7) rfl (by kernel_rfl) (by kernel_rfl) (by kernel_rfl) rfl (wantE rfl rfl hg1_5) (fun u hu => x_nilCheck rfl) hE1d ?_
    refine DW.take (i := 8) rfl (by kernel_rfl) (by kernel_rfl) (by kernel_rfl) rfl (wantE rfl rfl hg1_5) (fun u hu => x_fieldAddr Try.underlying67 rfl Try.sizeOf3 (by decide) rfl) hE1d ?_
    refine DW.take (i := 9) rfl (by kernel_rfl) (by kernel_rfl) (by kernel_rfl) rfl (wantE rfl rfl hg1_5) (fun u hu => x_load Try.isAgg3 rfl (hu.cell0 c1)) hE1d ?_
    refine DW.take (i := 10) rfl (by kernel_rfl) (by kernel_rfl) (by kernel_rfl) rfl (wantE rfl rfl hg1_5) (fun u hu => x_move ) hE1d ?_
    refine DW.take (i := 11) rfl (by kernel_rfl) (by kernel_rfl) (by kernel_rfl) rfl (wantE rfl rfl hg1_5) (fun u hu => x_nilCheck rfl) hE1d ?_
    refine DW.take (i := 12) rfl (by kernel_rfl) (by kernel_rfl) (by kernel_rfl) rfl (wantE rfl rfl hg1_5) (fun u hu => x_fieldAddr Try.underlying67 rfl Try.sizeOf23 (by decide) rfl) hE1d ?_
    refine DW.take (i := 13) rfl (by kernel_rfl) (by kernel_rfl) (by kernel_rfl) rfl (wantE rfl rfl hg1_5) (fun u hu => x_load Try.isAgg23 rfl (hu.cell0 c0)) hE1d ?_
    refine DW.take (i := 14) rfl (by kernel_rfl) (by kernel_rfl) (by kernel_rfl) rfl (wantE rfl rfl hg1_5) (fun u hu => x_len Try.underlying23 rfl) hE1d ?_
    refine DW.take (i := 15) rfl (by kernel_rfl) (by kernel_rfl) (by kernel_rfl) rfl (wantE rfl rfl hg1_5) (fun u hu => x_gtr rfl rfl) hE1d ?_
    refine DW.take (i := 16) rfl (by kernel_rfl) (by kernel_rfl) (by kernel_rfl) rfl rfl (fun u hu => x_pickF rfl hg1_5) hE1d ?_
    refine DW.take (i := 17) rfl (by kernel_rfl) (by kernel_rfl) (by kernel_rfl) rfl rfl (fun u hu => x_move ) hE1d ?_
    refine DW.known (t := 23) (c := true) rfl (by simp; omega) (fun hg1_17 => ?_)
    refine DW.skip (i := 18) rfl (by kernel_rfl) (by kernel_rfl) (by kernel_rfl) rfl (skipE rfl rfl hg1_17) hE1d ?_
    refine DW.skip (i := 19) rfl (by kernel_rfl) (by kernel_rfl) (by kernel_rfl) rfl (skipE rfl rfl hg1_17) hE1d ?_
    refine DW.skip (i := 20) rfl (by kernel_rfl) (by kernel_rfl) (by kernel_rfl) rfl (skipE rfl rfl hg1_17) hE1d ?_
    refine DW.skip (i := 21) rfl (by kernel_rfl) (by kernel_rfl) (by kernel_rfl) rfl (skipE rfl rfl hg1_17) hE1d ?_
    refine DW.skip (i := 22) rfl (by kernel_rfl) (by kernel_rfl) (by kernel_rfl) rfl (skipE rfl rfl hg1_17) hE1d ?_
    refine DW.skip (i := 23) rfl (by kernel_rfl) (by kernel_rfl) (by kernel_rfl) rfl (skipE rfl rfl hg1_17) hE1d ?_
    refine DW.skip (i := 24) rfl (by kernel_rfl) (by kernel_rfl) (by kernel_rfl) rfl (skipE rfl rfl hg1_17) hE1d ?_
    refine DW.skip (i := 25) rfl (by kernel_rfl) (by kernel_rfl) (by kernel_rfl) rfl (skipE rfl rfl hg1_17) hE1d ?_
    refine DW.skip (i := 26) rfl (by kernel_rfl) (by kernel_rfl) (by kernel_rfl) rfl (skipE rfl rfl hg1_17) hE1d ?_
    refine DW.skip (i := 27) rfl (by kernel_rfl) (by kernel_rfl) (by kernel_rfl) rfl (skipE rfl rfl hg1_17) hE1d ?_
    refine DW.skip (i := 28) rfl (by kernel_rfl) (by kernel_rfl) (by kernel_rfl) rfl (skipE rfl rfl hg1_17) hE1d ?_
    refine DW.skip (i := 29) rfl (by kernel_rfl) (by kernel_rfl) (by kernel_rfl) rfl (skipE rfl rfl hg1_17) hE1d ?_
    refine DW.take (i := 30) rfl (by kernel_rfl) (by kernel_rfl) (by kernel_rfl) rfl rfl (fun u hu => x_pickT rfl hg1_17) hE1d ?_
    refine DW.done (by kernel_rfl) ?_
    refine thenE_norm ?_
    refine cut (K := K3) [0, 1, 36] (fun σ => ?_)
    simp only [setL, keepE, upd_get, ev, Nat.reduceEqDiff, ↓reduceIte]
    refine h3 _ _ ?_; clear h3; try clear K3
    refine CW.condT rfl rfl ?_
    refine CW.region ?_
    refine r_build rfl Try.underlying64 Try.zeroValue64 rfl (pl := [(0, 1)]) (by intro w; simp [go_sem]) rfl ?_
    refine r_makeInterface rfl (by kernel_rfl) (by simp only [upd_get, ev, Nat.reduceEqDiff, ↓reduceIte] <;> rfl) ?_
    refine r_panic rfl (thenE_pan (?_))
    exact ⟨rfl, hE1d⟩
  · clear hr
    refine calls_of_CW Try.func49 rfl Try.ntmps49 (Nat.le_of_ble_eq_true rfl) ?_
    simp only [argE, argFrom, Nat.reduceAdd]
    refine CW.seq (fun K1 h1 => ?_)
    refine CW.region ?_
    refine r_assign rfl ?_
    refine LW.nil ?_
    refine thenE_norm (h1 _ _ ?_); clear h1; try clear K1
    refine CW.seq (fun K2 h2 => ?_)
    refine CW.seq (fun K3 h3 => ?_)
    refine CW.draw (fun u => Ext Non w u) (by kernel_rfl) rfl (fun w1d hh1d hE1d => ?_)
    refine DW.take (i := 0) rfl (by kernel_rfl) (by kernel_rfl) (by kernel_rfl) rfl rfl (fun u hu => x_move ) hE1d ?_
    refine DW.take (i := 1) rfl (by kernel_rfl) (by kernel_rfl) (by kernel_rfl) rfl rfl (fun u hu => x_nilCheck rfl) hE1d ?_
    refine DW.take (i := 2) rfl (by kernel_rfl) (by kernel_rfl) (by kernel_rfl) rfl rfl (fun u hu => x_fieldAddr Try.underlying67 rfl Try.sizeOf3 (by decide) rfl) hE1d ?_
    refine DW.take (i := 3) rfl (by kernel_rfl) (by kernel_rfl) (by kernel_rfl) rfl rfl (fun u hu => x_load Try.isAgg3 rfl (hu.cell0 c1)) hE1d ?_
    refine DW.take (i := 4) rfl (by kernel_rfl) (by kernel_rfl) (by kernel_rfl) rfl rfl (fun u hu => x_lss rfl rfl) hE1d ?_
    refine DW.take (i := 5) rfl (by kernel_rfl) (by kernel_rfl) (by kernel_rfl) rfl rfl (fun u hu => x_move ) hE1d ?_
    refine DW.known (t := 11) (c := false) rfl (by simp; omega) (fun hg1_5 => ?_)
    refine DW.take (i := 6) rfl (by kernel_rfl) (by kernel_rfl) (by kernel_rfl) rfl (wantE rfl rfl hg1_5) (fun u hu => x_move ) hE1d ?_
    refine DW.take (i := 7) rfl (by kernel_rfl) (by kernel_rfl) (by kernel_rfl) rfl (wantE rfl rfl hg1_5) (fun u hu => x_nilCheck rfl) hE1d ?_
    refine DW.take (i := 8) rfl (by kernel_rfl) (by kernel_rfl) (by kernel_rfl) rfl (wantE rfl rfl hg1_5) (fun u hu => x_fieldAddr Try.underlying67 rfl Try.sizeOf3 (by decide) rfl) hE1d ?_
    refine DW.take (i := 9) rfl (by kernel_rfl) (by kernel_rfl) (by kernel_rfl) rfl (wantE rfl rfl hg1_5) (fun u hu => x_load Try.isAgg3 rfl (hu.cell0 c1)) hE1d ?_
    refine DW.take (i := 10) rfl (by kernel_rfl) (by kernel_rfl) (by kernel_rfl) rfl (wantE rfl rfl hg1_5) (fun u hu => x_move ) hE1d ?_
    refine DW.take (i := 11) rfl (by kernel_rfl) (by kernel_rfl) (by kernel_rfl) rfl (wantE rfl rfl hg1_5) (fun u hu => x_nilCheck rfl) hE1d ?_
    refine DW.take (i := 12) rfl (by kernel_rfl) (by kernel_rfl) (by kernel_rfl) rfl (wantE rfl rfl hg1_5) (fun u hu => x_fieldAddr Try.underlying67 rfl Try.sizeOf23 (by decide) rfl) hE1d ?_
    refine DW.take (i := 13) rfl (by kernel_rfl) (by kernel_rfl) (by kernel_rfl) rfl (wantE rfl rfl hg1_5) (fun u hu => x_load Try.isAgg23 rfl (hu.cell0 c0)) hE1d ?_
    refine DW.take (i := 14) rfl (by kernel_rfl) (by kernel_rfl) (by kernel_rfl) rfl (wantE rfl rfl hg1_5) (fun u hu => x_len Try.underlying23 rfl) hE1d ?_
    refine DW.take (i := 15) rfl (by kernel_rfl) (by kernel_rfl) (by kernel_rfl) rfl (wantE rfl rfl hg1_5) (fun u hu => x_gtr rfl rfl) hE1d ?_
    refine DW.take (i := 16) rfl (by kernel_rfl) (by kernel_rfl) (by kernel_rfl) rfl rfl (fun u hu => x_pickF rfl hg1_5) hE1d ?_
    refine DW.take (i := 17) rfl (by kernel_rfl) (by kernel_rfl) (by kernel_rfl) rfl rfl (fun u hu => x_move ) hE1d ?_
    refine DW.known (t := 23) (c := false) rfl (by simp; omega) (fun hg1_17 => ?_)
    refine DW.take (i := 18) rfl (by kernel_rfl) (by kernel_rfl) (by kernel_rfl) rfl (wantE rfl rfl hg1_17) (fun u hu => x_move ) hE1d ?_
    refine DW.take (i := 19) rfl (by kernel_rfl) (by kernel_rfl) (by kernel_rfl) rfl (wantE rfl rfl hg1_17) (fun u hu => x_nilCheck rfl) hE1d ?_
    refine DW.take (i := 20) rfl (by kernel_rfl) (by kernel_rfl) (by kernel_rfl) rfl (wantE rfl rfl hg1_17) (fun u hu => x_fieldAddr Try.underlying67 rfl Try.sizeOf23 (by decide) rfl) hE1d ?_
    refine DW.take (i := 21) rfl (by kernel_rfl) (by kernel_rfl) (by kernel_rfl) rfl (wantE rfl rfl hg1_17) (fun u hu => x_load Try.isAgg23 rfl (hu.cell0 c0)) hE1d ?_
    refine DW.take (i := 22) rfl (by kernel_rfl) (by kernel_rfl) (by kernel_rfl) rfl (wantE rfl rfl hg1_17) (fun u hu => x_len Try.underlying23 rfl) hE1d ?_
    refine DW.take (i := 23) rfl (by kernel_rfl) (by kernel_rfl) (by kernel_rfl) rfl (wantE rfl rfl hg1_17) (fun u hu => x_move ) hE1d ?_
    refine DW.take (i := 24) rfl (by kernel_rfl) (by kernel_rfl) (by kernel_rfl) rfl (wantE rfl rfl hg1_17) (fun u hu => x_nilCheck rfl) hE1d ?_
    refine DW.take (i := 25) rfl (by kernel_rfl) (by kernel_rfl) (by kernel_rfl) rfl (wantE rfl rfl hg1_17) (fun u hu => x_fieldAddr Try.underlying67 rfl Try.sizeOf3 (by decide) rfl) hE1d ?_
    refine DW.take (i := 26) rfl (by kernel_rfl) (by kernel_rfl) (by kernel_rfl) rfl (wantE rfl rfl hg1_17) (fun u hu => x_load Try.isAgg3 rfl (hu.cell0 c1)) hE1d ?_
    refine DW.take (i := 27) rfl (by kernel_rfl) (by kernel_rfl) (by kernel_rfl) rfl (wantE rfl rfl hg1_17) (fun u hu => x_sub rfl rfl (wr_i64 (by omega) (by omega))) hE1d ?_
    refine DW.take (i := 28) rfl (by kernel_rfl) (by kernel_rfl) (by kernel_rfl) rfl (wantE rfl rfl hg1_17) (fun u hu => x_move ) hE1d ?_
    refine DW.take (i := 29) rfl (by kernel_rfl) (by kernel_rfl) (by kernel_rfl) rfl (wantE rfl rfl hg1_17) (fun u hu => x_lss rfl rfl) hE1d ?_
    refine DW.take (i := 30) rfl (by kernel_rfl) (by kernel_rfl) (by kernel_rfl) rfl rfl (fun u hu => x_pickF rfl hg1_17) hE1d ?_
    refine DW.done (by kernel_rfl) ?_
    refine thenE_norm ?_
    refine cut (K := K3) [0, 1, 36] (fun σ => ?_)
    simp only [setL, keepE, upd_get, ev, Nat.reduceEqDiff, ↓reduceIte]
    refine h3 _ _ ?_; clear h3; try clear K3
    refine CW.condT rfl (by simp; omega) ?_
    refine CW.region ?_
    refine r_build rfl Try.underlying64 Try.zeroValue64 rfl (pl := [(0, 1)]) (by intro w; simp [go_sem]) rfl ?_
    refine r_makeInterface rfl (by kernel_rfl) (by simp only [upd_get, ev, Nat.reduceEqDiff, ↓reduceIte] <;> rfl) ?_
    refine r_panic rfl (thenE_pan (?_))
    exact ⟨rfl, hE1d⟩
end Go.Proofs.Ytgcmafgcigipdaa
