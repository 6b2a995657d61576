/-
  The walks of layer 4's functions, and of the document's, the fourth part: requests.
-/
import Derived.Test.YtgcmafgcigipdaaVCmdC
import Derived.Test.YtgcmafgcigipdaaVMReq
namespace Go.Proofs.Ytgcmafgcigipdaa
set_option linter.unusedSimpArgs false
set_option linter.unusedVariables false
set_option maxRecDepth 20000
open Go.V Go.RowKit

theorem PutReq_c (c q k n : Int) (s : ByteArray) (w : World) (hs : s.size ≤ 9223372036854775807) :
    Calls Try.prog 41 #[reqV c q k n s] w fun e w' => ∃ v, e = .returned (.tuple #[v, .int .i64 (putReqM c q k n s.data.toList).2]) ∧ Bs (New w) w' v (putReqM c q k n s.data.toList).1 ∧ Ext0 w w' := by
  have hsz : s.data.toList.length = s.size := by simp
  refine calls_of_CW Try.func41 rfl Try.ntmps41 (Nat.le_of_ble_eq_true rfl) ?_
  simp only [argE, argFrom, Nat.reduceAdd]
  refine CW.seq (fun K1 h1 => ?_)
  refine CW.region ?_
  refine r_box rfl (by simp only [upd_get, ev, Nat.reduceEqDiff, ↓reduceIte] <;> rfl) rfl ?_
  intro b0_0 w0_0 hb0_0 hs0_0 hE0_0 hB0_0
  have hB : Blk w0_0 b0_0 53 (reqL c q k n s) := hB0_0
  refine r_assign rfl ?_
  refine r_assign rfl ?_
  refine LW.nil ?_
  refine thenE_norm (h1 _ _ ?_); clear h1; try clear K1
  refine CW.seq (fun K2 h2 => ?_)
  refine CW.seq (fun K3 h3 => ?_)
  refine CW.region ?_
  refine r_loadA rfl Try.isAgg53 Try.sizeOf53 rfl (hB.cellsAll) rfl ?_
  refine r_call rfl Try.call45 rfl (MayReq_c c q k n s _ hs) ?_
  rintro _ w1 ⟨rfl, hE1⟩
  refine ⟨_, rfl, ?_⟩
  have e1 := hE0_0.trans hE1
  have hB1 := hB.up0 hE1
  refine r_not rfl rfl ?_
  refine LW.nil ?_
  refine thenE_norm (h3 _ _ ?_); clear h3; try clear K3
  refine CW.cond rfl (fun hc1 => ?_) (fun hc1 => ?_)
  · try simp only [decide_eq_true_eq, decide_eq_false_iff_not, Bool.and_eq_true, Bool.or_eq_true, Bool.and_eq_false_iff, Bool.or_eq_false_iff, Bool.not_eq_true', Bool.not_eq_false', beq_iff_eq, bne_iff_ne] at hc1
    refine CW.seq (fun K4 h4 => ?_)
    refine CW.region ?_
    refine r_assign rfl ?_
    refine r_assign rfl ?_
    refine LW.nil ?_
    refine thenE_norm ?_
    refine cut (K := K4) [2, 3] (fun σ => ?_)
    simp only [setL, keepE, upd_get, ev, Nat.reduceEqDiff, ↓reduceIte]
    refine h4 _ _ ?_; clear h4; try clear K4
    refine CW.ret (thenE_ret (ret2 Try.results41 (by simp only [upd_get, ev, Nat.reduceEqDiff, ↓reduceIte]; rfl) (by simp only [upd_get, ev, Nat.reduceEqDiff, ↓reduceIte]; rfl) ?_))
    exact ⟨_, by rw [putReqM, if_neg (by simpa using hc1)], by rw [putReqM, if_neg (by simpa using hc1)]; exact Bs.nil, e1⟩
  · try simp only [decide_eq_true_eq, decide_eq_false_iff_not, Bool.and_eq_true, Bool.or_eq_true, Bool.and_eq_false_iff, Bool.or_eq_false_iff, Bool.not_eq_true', Bool.not_eq_false', beq_iff_eq, bne_iff_ne] at hc1
    have hm : mayReqM c q k n s.data.toList = true := by simpa using hc1
    obtain ⟨k1, k2, k3, k4, k5⟩ := mayReq_all hm
    have p1 : putByteM c = ([UInt8.ofNat c.toNat], 0) := by rw [putByteM, if_pos (by omega)]
    have p2 : putNumM q = (eight q.toNat, 0) := by rw [putNumM, if_pos (by omega)]
    have d2 := PutByte_c c w1
    rw [p1] at d2
    dsimp only at d2
    refine CW.skip ?_
    refine thenE_norm (h2 _ _ ?_); clear h2; try clear K2
    refine CW.seq (fun K5 h5 => ?_)
    refine CW.region ?_
    refine r_fieldAddr rfl Try.underlying53 rfl Try.sizeOf3 (by decide) rfl ?_
    refine r_load rfl Try.isAgg3 rfl (hB1.cell (o := 0) rfl) ?_
    refine r_call rfl Try.call27 rfl (d2) ?_
    rintro _ w2 ⟨v2, rfl, hv2, hE2⟩
    refine ⟨_, rfl, ?_⟩
    have e2 := e1.trans hE2
    have hB2 := hB1.up0 hE2
    have d3 := PutNum_c q w2
    rw [p2] at d3
    dsimp only at d3
    refine r_move rfl ?_
    refine r_extract rfl rfl rfl ?_
    refine r_extract rfl rfl rfl ?_
    refine r_assign rfl ?_
    refine r_assign rfl ?_
    refine LW.nil ?_
    refine thenE_norm ?_
    refine cut (K := K5) [1, 4] (fun σ => ?_)
    simp only [setL, keepE, upd_get, ev, Nat.reduceEqDiff, ↓reduceIte]
    refine h5 _ _ ?_; clear h5; try clear K5
    refine CW.seq (fun K6 h6 => ?_)
    refine CW.region ?_
    refine r_fieldAddr rfl Try.underlying53 rfl Try.sizeOf3 (by decide) rfl ?_
    refine r_load rfl Try.isAgg3 rfl (hB2.cell (o := 1) rfl) ?_
    refine r_call rfl Try.call16 rfl (d3) ?_
    rintro _ w3 ⟨v3, rfl, hv3, hE3⟩
    refine ⟨_, rfl, ?_⟩
    have e3 := e2.trans hE3
    have hB3 := hB2.up0 hE3
    refine r_move rfl ?_
    refine r_extract rfl rfl rfl ?_
    refine r_extract rfl rfl rfl ?_
    refine r_assign rfl ?_
    refine r_assign rfl ?_
    refine LW.nil ?_
    refine thenE_norm ?_
    refine cut (K := K6) [1, 4, 6] (fun σ => ?_)
    simp only [setL, keepE, upd_get, ev, Nat.reduceEqDiff, ↓reduceIte]
    refine h6 _ _ ?_; clear h6; try clear K6
    refine CW.seq (fun K7 h7 => ?_)
    refine CW.region ?_
    refine r_fieldAddr rfl Try.underlying53 rfl Try.sizeOf42 (by decide) rfl ?_
    refine r_loadA rfl Try.isAgg42 Try.sizeOf42 rfl (Blk.cells (pre := [.int .i64 c, .int .i64 q]) (cs := cmdL k n s) (post := []) hB3) rfl ?_
    refine r_call rfl Try.call32 rfl (Put_c k n s w3 hs) ?_
    rintro _ w4 ⟨v4, rfl, hv4, hE4⟩
    refine ⟨_, rfl, ?_⟩
    have e4 := e3.trans hE4
    obtain ⟨ao2, cap2, rfl, -, -, -⟩ := hv2.cell
    obtain ⟨ao3, cap3, rfl, -, -, -⟩ := hv3.cell
    obtain ⟨ao4, cap4, rfl, -, -, -⟩ := hv4.cell
    refine r_move rfl ?_
    refine r_extract rfl rfl rfl ?_
    refine r_extract rfl rfl rfl ?_
    refine r_assign rfl ?_
    refine r_assign rfl ?_
    refine LW.nil ?_
    refine thenE_norm ?_
    refine cut (K := K7) [4, 6, 8] (fun σ => ?_)
    simp only [setL, keepE, upd_get, ev, Nat.reduceEqDiff, ↓reduceIte]
    refine h7 _ _ ?_; clear h7; try clear K7
    refine CW.seq (fun K8 h8 => ?_)
    refine CW.region ?_
    refine r_move rfl ?_
    refine r_move rfl ?_
    refine r_move rfl ?_
    refine r_buildSlice rfl Try.underlying77 Try.sizeOf23 Try.zeroValue23 rfl rfl rfl rfl ?_
    intro b6_3 w6_3 hb6_3 hs6_3 hE6_3 hB6_3
    have e5 := e4.trans hE6_3
    have j2 : Bs (fun _ => True) w6_3 _ [UInt8.ofNat c.toNat] := Sl.mono (((hv2.up0 hE3).up0 hE4).up0 hE6_3) (fun _ _ _ => trivial)
    have j3 : Bs (fun _ => True) w6_3 _ (eight q.toNat) := Sl.mono ((hv3.up0 hE4).up0 hE6_3) (fun _ _ _ => trivial)
    have j4 : Bs (fun _ => True) w6_3 _ (putM k n s.data.toList).1 := Sl.mono (hv4.up0 hE6_3) (fun _ _ _ => trivial)
    have hS : Sl (fun _ => True) w6_3 (.slice (some ⟨b6_3, 0, none⟩) 3 3) 3 [.slice ao2 [UInt8.ofNat c.toNat].length cap2, .slice ao3 (eight q.toNat).length cap3, .slice ao4 (putM k n s.data.toList).1.length cap4] := ⟨_, _, rfl, Nat.le_refl _, by decide, .inr ⟨_, _, rfl, trivial, hB6_3.cellsAll⟩⟩
    have hpl := putM_len k n s.data.toList
    have d7 := Concat_c (vs := [.slice ao2 [UInt8.ofNat c.toNat].length cap2, .slice ao3 (eight q.toNat).length cap3, .slice ao4 (putM k n s.data.toList).1.length cap4]) (xss := [[UInt8.ofNat c.toNat], eight q.toNat, (putM k n s.data.toList).1]) _ hS rfl (fun i hi => match i, hi with | 0, _ => j2 | 1, _ => j3 | 2, _ => j4) (by simp [eight_len]; omega) (by simp)
    refine r_call rfl Try.call54 rfl (d7) ?_
    rintro _ w7 ⟨v7, g7, rfl, hO7, hg7, hE7⟩
    refine ⟨_, rfl, ?_⟩
    refine r_assign rfl ?_
    refine r_assign rfl ?_
    refine LW.nil ?_
    refine thenE_norm (h8 _ _ ?_); clear h8; try clear K8
    refine CW.ret (ret2 Try.results41 (by simp only [upd_get, ev, Nat.reduceEqDiff, ↓reduceIte]; rfl) (by simp only [upd_get, ev, Nat.reduceEqDiff, ↓reduceIte]; rfl) ?_)
    have hfl : [[UInt8.ofNat c.toNat], eight q.toNat, (putM k n s.data.toList).1].flatten = [UInt8.ofNat c.toNat] ++ eight q.toNat ++ (putM k n s.data.toList).1 := by simp
    rw [hfl] at hO7
    rw [putReqM, if_pos hm]
    exact ⟨_, rfl, hO7.sl.mono (fun b _ h => by have := hg7 b h; have := e5.size; show w.heap.size ≤ b; omega), e5.trans hE7⟩

theorem GetReq_c {F : Nat → Prop} {v : Value} {xs : List UInt8} (at_ : Int) (w : World) (hv : Bs F w v xs) :
    Calls Try.prog 43 #[v, .int .i64 at_] w fun e w' => e = .returned (.tuple #[reqV (getReqM xs at_).1.1 (getReqM xs at_).1.2.1 (getReqM xs at_).1.2.2.1 (getReqM xs at_).1.2.2.2.1 ⟨(getReqM xs at_).1.2.2.2.2.toArray⟩, .int .i64 (getReqM xs at_).2.1, .int .i64 (getReqM xs at_).2.2]) ∧ Ext0 w w' := by
  have hv' := hv
  obtain ⟨ao, cap, rfl, -, -, -⟩ := hv'.cell
  refine calls_of_CW Try.func43 rfl Try.ntmps43 (Nat.le_of_ble_eq_true rfl) ?_
  simp only [argE, argFrom, Nat.reduceAdd]
  refine CW.seq (fun K1 h1 => ?_)
  refine CW.region ?_
  refine r_alloc rfl Try.zeroValue53 rfl ?_
  intro b0_0 w0_0 hb0_0 hs0_0 hE0_0 hB0_0
  have k0 : Blk w0_0 b0_0 53 (reqL 0 0 0 0 (ByteArray.mk #[])) := hB0_0
  refine r_assign rfl ?_
  refine r_assign rfl ?_
  refine LW.nil ?_
  refine thenE_norm (h1 _ _ ?_); clear h1; try clear K1
  refine CW.seq (fun K2 h2 => ?_)
  refine CW.region ?_
  refine r_build rfl Try.underlying53 Try.zeroValue53 rfl (pl := [(0, 1), (1, 1), (2, 3)]) (by intro w; simp [go_sem]) rfl ?_
  refine r_alloc rfl Try.zeroValue53 rfl ?_
  intro b1_1 w1_1 hb1_1 hs1_1 hE1_1 hB1_1
  have k1 : Blk w1_1 b1_1 53 (reqL 0 0 0 0 (ByteArray.mk #[])) := hB1_1
  have k0 := k0.up0 hE1_1
  refine r_storeA Try.sizeOf53 rfl (by simp only [upd_get, ev, Nat.reduceEqDiff, ↓reduceIte] <;> rfl) rfl rfl rfl k1 (by decide) ?_
  intro w1_2 hs1_2 hE1_2 hB1_2
  have k1 : Blk w1_2 b1_1 53 (reqL 0 0 0 0 (ByteArray.mk #[])) := hB1_2
  have k0 := k0.up hE1_2 (by omega)
  have e1 : Ext0 w w1_2 := (hE0_0.trans hE1_1).transN hE1_2 (fun x hx => by omega)
  refine LW.nil ?_
  refine thenE_norm (h2 _ _ ?_); clear h2; try clear K2
  refine CW.seq (fun K3 h3 => ?_)
  refine CW.region ?_
  refine r_assign rfl ?_
  refine LW.nil ?_
  refine thenE_norm (h3 _ _ ?_); clear h3; try clear K3
  refine CW.seq (fun K4 h4 => ?_)
  refine CW.seq (fun K5 h5 => ?_)
  refine CW.region ?_
  refine r_move rfl ?_
  refine r_move rfl ?_
  refine r_call rfl Try.call29 rfl (Byte_c at_ _ (hv.up0 e1)) ?_
  rintro _ w2 ⟨rfl, hE2⟩
  refine ⟨_, rfl, ?_⟩
  have k0 := k0.up0 hE2
  have k1 := k1.up0 hE2
  have e2 := e1.trans hE2
  refine r_move rfl ?_
  refine r_extract rfl rfl rfl ?_
  refine r_extract rfl rfl rfl ?_
  refine r_extract rfl rfl rfl ?_
  refine r_fieldAddr rfl Try.underlying53 rfl Try.sizeOf3 (by decide) rfl ?_
  refine r_store Try.sizeOf3 rfl (by simp only [upd_get, ev, Nat.reduceEqDiff, ↓reduceIte] <;> rfl) rfl k1 (by show 0 < 5; decide) ?_
  intro w3_8 hs3_8 hE3_8 hB3_8
  have k1 : Blk w3_8 b1_1 53 (reqL (byteM xs at_).1 0 0 0 (ByteArray.mk #[])) := hB3_8
  have k0 := k0.up hE3_8 (by omega)
  have e3 : Ext0 w w3_8 := e2.transN hE3_8 (fun x hx => by omega)
  try simp only [Nat.zero_add, Nat.mul_one] at hB3_8
  refine r_assign rfl ?_
  refine r_assign rfl ?_
  refine LW.nil ?_
  refine thenE_norm ?_
  refine cut (K := K5) [0, 1, 4, 7, 8] (fun σ => ?_)
  simp only [setL, keepE, upd_get, ev, Nat.reduceEqDiff, ↓reduceIte]
  refine h5 _ _ ?_; clear h5; try clear K5
  refine CW.seq (fun K6 h6 => ?_)
  refine CW.region ?_
  refine r_move rfl ?_
  refine r_neq rfl rfl rfl ?_
  refine LW.nil ?_
  refine thenE_norm (h6 _ _ ?_); clear h6; try clear K6
  refine CW.cond rfl (fun hc1 => ?_) (fun hc1 => ?_)
  · try simp only [decide_eq_true_eq, decide_eq_false_iff_not, Bool.and_eq_true, Bool.or_eq_true, Bool.and_eq_false_iff, Bool.or_eq_false_iff, Bool.not_eq_true', Bool.not_eq_false', beq_iff_eq, bne_iff_ne] at hc1
    refine CW.seq (fun K7 h7 => ?_)
    refine CW.region ?_
    refine r_build rfl Try.underlying53 Try.zeroValue53 rfl (pl := [(0, 1), (1, 1), (2, 3)]) (by intro w; simp [go_sem]) rfl ?_
    refine r_move rfl ?_
    refine r_storeA Try.sizeOf53 rfl (by simp only [upd_get, ev, Nat.reduceEqDiff, ↓reduceIte] <;> rfl) rfl rfl rfl k0 (by decide) ?_
    intro w5_2 hs5_2 hE5_2 hB5_2
    refine r_assign rfl ?_
    refine r_assign rfl ?_
    refine LW.nil ?_
    refine thenE_norm (h7 _ _ ?_); clear h7; try clear K7
    refine CW.ret (thenE_ret (retC3 Try.results43 (by simp only [upd_get, ev, Nat.reduceEqDiff, ↓reduceIte] <;> rfl) (by simp only [upd_get, ev, Nat.reduceEqDiff, ↓reduceIte] <;> rfl) (by simp only [upd_get, ev, Nat.reduceEqDiff, ↓reduceIte] <;> rfl) Try.isAgg53 Try.sizeOf53 (hB5_2.cellsAll) rfl ?_))
    exact ⟨by rw [getReqM, if_pos hc1]; rfl, e3.transN hE5_2 (fun x hx => by omega)⟩
  · try simp only [decide_eq_true_eq, decide_eq_false_iff_not, Bool.and_eq_true, Bool.or_eq_true, Bool.and_eq_false_iff, Bool.or_eq_false_iff, Bool.not_eq_true', Bool.not_eq_false', beq_iff_eq, bne_iff_ne] at hc1
    refine CW.skip ?_
    refine thenE_norm (h4 _ _ ?_); clear h4; try clear K4
    refine CW.seq (fun K8 h8 => ?_)
    refine CW.seq (fun K9 h9 => ?_)
    refine CW.region ?_
    refine r_move rfl ?_
    refine r_move rfl ?_
    refine r_call rfl Try.call24 rfl (Num_c _ _ (hv.up0 e3)) ?_
    rintro _ w4 ⟨rfl, hE4⟩
    refine ⟨_, rfl, ?_⟩
    have k0 := k0.up0 hE4
    have k1 := k1.up0 hE4
    have e4 := e3.trans hE4
    refine r_move rfl ?_
    refine r_extract rfl rfl rfl ?_
    refine r_extract rfl rfl rfl ?_
    refine r_extract rfl rfl rfl ?_
    refine r_fieldAddr rfl Try.underlying53 rfl Try.sizeOf3 (by decide) rfl ?_
    refine r_store Try.sizeOf3 rfl (by simp only [upd_get, ev, Nat.reduceEqDiff, ↓reduceIte] <;> rfl) rfl k1 (by show 1 < 5; decide) ?_
    intro w6_8 hs6_8 hE6_8 hB6_8
    have k1 : Blk w6_8 b1_1 53 (reqL (byteM xs at_).1 (numM xs (byteM xs at_).2.1).1 0 0 (ByteArray.mk #[])) := hB6_8
    have k0 := k0.up hE6_8 (by omega)
    have e5 : Ext0 w w6_8 := e4.transN hE6_8 (fun x hx => by omega)
    try simp only [Nat.zero_add, Nat.mul_one] at hB6_8
    refine r_assign rfl ?_
    refine r_assign rfl ?_
    refine LW.nil ?_
    refine thenE_norm ?_
    refine cut (K := K9) [0, 1, 4, 7, 8] (fun σ => ?_)
    simp only [setL, keepE, upd_get, ev, Nat.reduceEqDiff, ↓reduceIte]
    refine h9 _ _ ?_; clear h9; try clear K9
    refine CW.seq (fun K10 h10 => ?_)
    refine CW.region ?_
    refine r_move rfl ?_
    refine r_neq rfl rfl rfl ?_
    refine LW.nil ?_
    refine thenE_norm (h10 _ _ ?_); clear h10; try clear K10
    refine CW.cond rfl (fun hc2 => ?_) (fun hc2 => ?_)
    · try simp only [decide_eq_true_eq, decide_eq_false_iff_not, Bool.and_eq_true, Bool.or_eq_true, Bool.and_eq_false_iff, Bool.or_eq_false_iff, Bool.not_eq_true', Bool.not_eq_false', beq_iff_eq, bne_iff_ne] at hc2
      refine CW.seq (fun K11 h11 => ?_)
      refine CW.region ?_
      refine r_build rfl Try.underlying53 Try.zeroValue53 rfl (pl := [(0, 1), (1, 1), (2, 3)]) (by intro w; simp [go_sem]) rfl ?_
      refine r_move rfl ?_
      refine r_storeA Try.sizeOf53 rfl (by simp only [upd_get, ev, Nat.reduceEqDiff, ↓reduceIte] <;> rfl) rfl rfl rfl k0 (by decide) ?_
      intro w8_2 hs8_2 hE8_2 hB8_2
      refine r_assign rfl ?_
      refine r_assign rfl ?_
      refine LW.nil ?_
      refine thenE_norm (h11 _ _ ?_); clear h11; try clear K11
      refine CW.ret (thenE_ret (retC3 Try.results43 (by simp only [upd_get, ev, Nat.reduceEqDiff, ↓reduceIte] <;> rfl) (by simp only [upd_get, ev, Nat.reduceEqDiff, ↓reduceIte] <;> rfl) (by simp only [upd_get, ev, Nat.reduceEqDiff, ↓reduceIte] <;> rfl) Try.isAgg53 Try.sizeOf53 (hB8_2.cellsAll) rfl ?_))
      exact ⟨by rw [getReqM, if_neg hc1, if_pos hc2]; rfl, e5.transN hE8_2 (fun x hx => by omega)⟩
    · try simp only [decide_eq_true_eq, decide_eq_false_iff_not, Bool.and_eq_true, Bool.or_eq_true, Bool.and_eq_false_iff, Bool.or_eq_false_iff, Bool.not_eq_true', Bool.not_eq_false', beq_iff_eq, bne_iff_ne] at hc2
      refine CW.skip ?_
      refine thenE_norm (h8 _ _ ?_); clear h8; try clear K8
      refine CW.seq (fun K12 h12 => ?_)
      refine CW.seq (fun K13 h13 => ?_)
      refine CW.region ?_
      refine r_move rfl ?_
      refine r_move rfl ?_
      refine r_call rfl Try.call34 rfl (Get_c _ _ (hv.up0 e5)) ?_
      rintro _ w6 ⟨rfl, hE6⟩
      refine ⟨_, rfl, ?_⟩
      have k0 := k0.up0 hE6
      have k1 := k1.up0 hE6
      have e6 := e5.trans hE6
      have hgl := getM_len xs (numM xs (byteM xs at_).2.1).2.1
      generalize hG : getM xs (numM xs (byteM xs at_).2.1).2.1 = G at *
      refine r_move rfl ?_
      refine r_extract rfl rfl rfl ?_
      refine r_extract rfl rfl rfl ?_
      refine r_extract rfl rfl rfl ?_
      refine r_fieldAddr rfl Try.underlying53 rfl Try.sizeOf42 (by decide) rfl ?_
      refine r_storeA Try.sizeOf42 rfl (by simp only [upd_get, ev, Nat.reduceEqDiff, ↓reduceIte] <;> rfl) rfl rfl rfl k1 (by show 2 + 3 ≤ 5; decide) ?_
      intro w9_8 hs9_8 hE9_8 hB9_8
      have k1 : Blk w9_8 b1_1 53 (reqL (byteM xs at_).1 (numM xs (byteM xs at_).2.1).1 G.1.1 G.1.2.1 ⟨G.1.2.2.toArray⟩) := hB9_8
      have k0 := k0.up hE9_8 (by omega)
      have e7 : Ext0 w w9_8 := e6.transN hE9_8 (fun x hx => by omega)
      refine r_assign rfl ?_
      refine r_assign rfl ?_
      refine LW.nil ?_
      refine thenE_norm ?_
      refine cut (K := K13) [1, 4, 7, 8] (fun σ => ?_)
      simp only [setL, keepE, upd_get, ev, Nat.reduceEqDiff, ↓reduceIte]
      refine h13 _ _ ?_; clear h13; try clear K13
      refine CW.seq (fun K14 h14 => ?_)
      refine CW.region ?_
      refine r_move rfl ?_
      refine r_neq rfl rfl rfl ?_
      refine LW.nil ?_
      refine thenE_norm (h14 _ _ ?_); clear h14; try clear K14
      refine CW.cond rfl (fun hc3 => ?_) (fun hc3 => ?_)
      · try simp only [decide_eq_true_eq, decide_eq_false_iff_not, Bool.and_eq_true, Bool.or_eq_true, Bool.and_eq_false_iff, Bool.or_eq_false_iff, Bool.not_eq_true', Bool.not_eq_false', beq_iff_eq, bne_iff_ne] at hc3
        refine CW.seq (fun K15 h15 => ?_)
        refine CW.region ?_
        refine r_build rfl Try.underlying53 Try.zeroValue53 rfl (pl := [(0, 1), (1, 1), (2, 3)]) (by intro w; simp [go_sem]) rfl ?_
        refine r_move rfl ?_
        refine r_storeA Try.sizeOf53 rfl (by simp only [upd_get, ev, Nat.reduceEqDiff, ↓reduceIte] <;> rfl) rfl rfl rfl k0 (by decide) ?_
        intro w11_2 hs11_2 hE11_2 hB11_2
        refine r_assign rfl ?_
        refine r_assign rfl ?_
        refine LW.nil ?_
        refine thenE_norm (h15 _ _ ?_); clear h15; try clear K15
        refine CW.ret (thenE_ret (retC3 Try.results43 (by simp only [upd_get, ev, Nat.reduceEqDiff, ↓reduceIte] <;> rfl) (by simp only [upd_get, ev, Nat.reduceEqDiff, ↓reduceIte] <;> rfl) (by simp only [upd_get, ev, Nat.reduceEqDiff, ↓reduceIte] <;> rfl) Try.isAgg53 Try.sizeOf53 (hB11_2.cellsAll) rfl ?_))
        exact ⟨by rw [getReqM, if_neg hc1, if_neg hc2, hG, if_pos hc3]; rfl, e7.transN hE11_2 (fun x hx => by omega)⟩
      · try simp only [decide_eq_true_eq, decide_eq_false_iff_not, Bool.and_eq_true, Bool.or_eq_true, Bool.and_eq_false_iff, Bool.or_eq_false_iff, Bool.not_eq_true', Bool.not_eq_false', beq_iff_eq, bne_iff_ne] at hc3
        refine CW.skip ?_
        refine thenE_norm (h12 _ _ ?_); clear h12; try clear K12
        refine CW.seq (fun K16 h16 => ?_)
        refine CW.seq (fun K17 h17 => ?_)
        refine CW.region ?_
        refine r_loadA rfl Try.isAgg53 Try.sizeOf53 rfl (k1.cellsAll) rfl ?_
        refine r_call rfl Try.call45 rfl (MayReq_c (byteM xs at_).1 (numM xs (byteM xs at_).2.1).1 G.1.1 G.1.2.1 ⟨G.1.2.2.toArray⟩ _ (by show G.1.2.2.toArray.size ≤ _; rw [List.size_toArray]; omega)) ?_
        rintro _ w8 ⟨rfl, hE8⟩
        refine ⟨_, rfl, ?_⟩
        have k0 := k0.up0 hE8
        have k1 := k1.up0 hE8
        have e8 := e7.trans hE8
        refine r_not rfl rfl ?_
        refine LW.nil ?_
        refine thenE_norm (h17 _ _ ?_); clear h17; try clear K17
        refine CW.cond rfl (fun hc4 => ?_) (fun hc4 => ?_)
        · try simp only [decide_eq_true_eq, decide_eq_false_iff_not, Bool.and_eq_true, Bool.or_eq_true, Bool.and_eq_false_iff, Bool.or_eq_false_iff, Bool.not_eq_true', Bool.not_eq_false', beq_iff_eq, bne_iff_ne] at hc4
          refine CW.seq (fun K18 h18 => ?_)
          refine CW.region ?_
          refine r_build rfl Try.underlying53 Try.zeroValue53 rfl (pl := [(0, 1), (1, 1), (2, 3)]) (by intro w; simp [go_sem]) rfl ?_
          refine r_storeA Try.sizeOf53 rfl (by simp only [upd_get, ev, Nat.reduceEqDiff, ↓reduceIte] <;> rfl) rfl rfl rfl k0 (by decide) ?_
          intro w13_1 hs13_1 hE13_1 hB13_1
          refine r_assign rfl ?_
          refine r_assign rfl ?_
          refine LW.nil ?_
          refine thenE_norm ?_
          refine cut (K := K18) [4, 5, 6] (fun σ => ?_)
          simp only [setL, keepE, upd_get, ev, Nat.reduceEqDiff, ↓reduceIte]
          refine h18 _ _ ?_; clear h18; try clear K18
          refine CW.ret (thenE_ret (retC3 Try.results43 (by simp only [upd_get, ev, Nat.reduceEqDiff, ↓reduceIte] <;> rfl) (by simp only [upd_get, ev, Nat.reduceEqDiff, ↓reduceIte] <;> rfl) (by simp only [upd_get, ev, Nat.reduceEqDiff, ↓reduceIte] <;> rfl) Try.isAgg53 Try.sizeOf53 (hB13_1.cellsAll) rfl ?_))
          exact ⟨by rw [getReqM, if_neg hc1, if_neg hc2, hG, if_neg hc3, if_neg (by simpa using hc4)]; rfl, e8.transN hE13_1 (fun x hx => by omega)⟩
        · try simp only [decide_eq_true_eq, decide_eq_false_iff_not, Bool.and_eq_true, Bool.or_eq_true, Bool.and_eq_false_iff, Bool.or_eq_false_iff, Bool.not_eq_true', Bool.not_eq_false', beq_iff_eq, bne_iff_ne] at hc4
          refine CW.skip ?_
          refine thenE_norm (h16 _ _ ?_); clear h16; try clear K16
          refine CW.seq (fun K19 h19 => ?_)
          refine CW.region ?_
          refine r_loadA rfl Try.isAgg53 Try.sizeOf53 rfl (k1.cellsAll) rfl ?_
          refine r_move rfl ?_
          refine r_storeA Try.sizeOf53 rfl (by simp only [upd_get, ev, Nat.reduceEqDiff, ↓reduceIte] <;> rfl) rfl rfl rfl k0 (by decide) ?_
          intro w14_2 hs14_2 hE14_2 hB14_2
          refine r_assign rfl ?_
          refine r_assign rfl ?_
          refine LW.nil ?_
          refine thenE_norm ?_
          refine cut (K := K19) [4, 5, 6] (fun σ => ?_)
          simp only [setL, keepE, upd_get, ev, Nat.reduceEqDiff, ↓reduceIte]
          refine h19 _ _ ?_; clear h19; try clear K19
          refine CW.ret (retC3 Try.results43 (by simp only [upd_get, ev, Nat.reduceEqDiff, ↓reduceIte] <;> rfl) (by simp only [upd_get, ev, Nat.reduceEqDiff, ↓reduceIte] <;> rfl) (by simp only [upd_get, ev, Nat.reduceEqDiff, ↓reduceIte] <;> rfl) Try.isAgg53 Try.sizeOf53 (hB14_2.cellsAll) rfl ?_)
          exact ⟨by rw [getReqM, if_neg hc1, if_neg hc2, hG, if_neg hc3, if_pos (by simpa using hc4)]; rfl, e8.transN hE14_2 (fun x hx => by omega)⟩

theorem PutReqR_c (c q k n : Int) (s : ByteArray) (w : World) (hs : s.size ≤ 9223372036854775807) :
    Calls Try.prog 42 #[reqV c q k n s] w fun e w' => ∃ v, e = .returned (.tuple #[v, .int .i64 (putReqM c q k n s.data.toList).2]) ∧ Bs (New w) w' v (putReqM c q k n s.data.toList).1 ∧ Ext0 w w' := by
  have hsz : s.data.toList.length = s.size := by simp
  refine calls_of_CW Try.func42 rfl Try.ntmps42 (Nat.le_of_ble_eq_true rfl) ?_
  simp only [argE, argFrom, Nat.reduceAdd]
  refine CW.seq (fun K1 h1 => ?_)
  refine CW.region ?_
  refine r_box rfl (by simp only [upd_get, ev, Nat.reduceEqDiff, ↓reduceIte] <;> rfl) rfl ?_
  intro b0_0 w0_0 hb0_0 hs0_0 hE0_0 hB0_0
  have hB : Blk w0_0 b0_0 53 (reqL c q k n s) := hB0_0
  refine r_assign rfl ?_
  refine r_assign rfl ?_
  refine LW.nil ?_
  refine thenE_norm (h1 _ _ ?_); clear h1; try clear K1
  refine CW.seq (fun K2 h2 => ?_)
  refine CW.seq (fun K3 h3 => ?_)
  refine CW.region ?_
  refine r_loadA rfl Try.isAgg53 Try.sizeOf53 rfl (hB.cellsAll) rfl ?_
  refine r_call rfl Try.call46 rfl (MayReqR_c c q k n s _) ?_
  rintro _ w1 ⟨rfl, hE1⟩
  refine ⟨_, rfl, ?_⟩
  have e1 := hE0_0.trans hE1
  have hB1 := hB.up0 hE1
  refine r_not rfl rfl ?_
  refine LW.nil ?_
  refine thenE_norm (h3 _ _ ?_); clear h3; try clear K3
  refine CW.cond rfl (fun hc1 => ?_) (fun hc1 => ?_)
  · try simp only [decide_eq_true_eq, decide_eq_false_iff_not, Bool.and_eq_true, Bool.or_eq_true, Bool.and_eq_false_iff, Bool.or_eq_false_iff, Bool.not_eq_true', Bool.not_eq_false', beq_iff_eq, bne_iff_ne] at hc1
    refine CW.seq (fun K4 h4 => ?_)
    refine CW.region ?_
    refine r_assign rfl ?_
    refine r_assign rfl ?_
    refine LW.nil ?_
    refine thenE_norm ?_
    refine cut (K := K4) [2, 3] (fun σ => ?_)
    simp only [setL, keepE, upd_get, ev, Nat.reduceEqDiff, ↓reduceIte]
    refine h4 _ _ ?_; clear h4; try clear K4
    refine CW.ret (thenE_ret (ret2 Try.results42 (by simp only [upd_get, ev, Nat.reduceEqDiff, ↓reduceIte]; rfl) (by simp only [upd_get, ev, Nat.reduceEqDiff, ↓reduceIte]; rfl) ?_))
    exact ⟨_, by rw [putReqM, if_neg (by simpa using hc1)], by rw [putReqM, if_neg (by simpa using hc1)]; exact Bs.nil, e1⟩
  · try simp only [decide_eq_true_eq, decide_eq_false_iff_not, Bool.and_eq_true, Bool.or_eq_true, Bool.and_eq_false_iff, Bool.or_eq_false_iff, Bool.not_eq_true', Bool.not_eq_false', beq_iff_eq, bne_iff_ne] at hc1
    have hm : mayReqM c q k n s.data.toList = true := by simpa using hc1
    obtain ⟨k1, k2, k3, k4, k5⟩ := mayReq_all hm
    have hk8 : (UInt8.ofNat c.toNat).toNat = c := by rw [UInt8.toNat_ofNat']; omega
    refine CW.skip ?_
    refine thenE_norm (h2 _ _ ?_); clear h2; try clear K2
    refine CW.seq (fun K5 h5 => ?_)
    refine CW.draw (fun u => Blk u b0_0 53 (reqL c q k n s)) (by kernel_rfl) rfl (fun w3d hh3d hE3d => ?_)
    have eC : Ext0 w1 w3d := hE3d
    have hBC := hB1.up0 hE3d
    have hb1 := hB1.lt
    refine DW.take (i := 0) rfl (by kernel_rfl) (by kernel_rfl) (by kernel_rfl) rfl rfl (fun u hu => x_fieldAddr Try.underlying53 rfl Try.sizeOf3 (by decide) rfl) hBC ?_
    refine DW.take (i := 1) rfl (by kernel_rfl) (by kernel_rfl) (by kernel_rfl) rfl rfl (fun u hu => x_load Try.isAgg3 rfl (hu.cell (o := 0) rfl)) hBC ?_
    refine DW.take (i := 2) rfl (by kernel_rfl) (by kernel_rfl) (by kernel_rfl) rfl rfl (fun u hu => x_convI Try.underlying3 Try.underlying5 rfl (wr_u8 (by omega) (by omega))) hBC ?_
    refine DW.take (i := 4) rfl (by kernel_rfl) (by kernel_rfl) (by kernel_rfl) rfl rfl (fun u hu => x_fieldAddr Try.underlying53 rfl Try.sizeOf3 (by decide) rfl) hBC ?_
    refine DW.take (i := 5) rfl (by kernel_rfl) (by kernel_rfl) (by kernel_rfl) rfl rfl (fun u hu => x_load Try.isAgg3 rfl (hu.cell (o := 1) rfl)) hBC ?_
    refine DW.two (i := 3) (j := 6) (by kernel_rfl) ?_ ?_
    · refine DOp.of rfl rfl ?_
      refine r_buildSlice rfl Try.underlying23 Try.sizeOf5 Try.zeroValue5 rfl rfl rfl rfl ?_
      intro b3_3 w3_3 hb3_3 hs3_3 hE3_3 hB3_3
      have hBC := hBC.up0 hE3_3
      have eC := Ext0.trans eC hE3_3
      have hL : Blk w3_3 b3_3 5 ([UInt8.ofNat c.toNat].map u8v) := by simp only [List.map_cons, List.map_nil, u8v]; rw [hk8]; exact hB3_3
      have hLn : w1.heap.size ≤ b3_3 := by have := hE3d.size; first | omega | (have := hE8.size; omega)
      try have hv8 := hv8.up0 hE3_3
      refine LW.nil (thenE_norm ⟨hBC, ?_⟩)
      refine DW.one (i := 6) (by kernel_rfl) rfl rfl ?_
      refine r_call rfl Try.call52 rfl (Eight_c q _ (by omega) (by omega)) ?_
      rintro _ w8 ⟨v8, rfl, hv8, hE8⟩
      refine ⟨_, rfl, ?_⟩
      have hBC := hBC.up0 hE8
      have eC := Ext0.trans eC hE8
      try have hL := hL.up0 hE8
      refine LW.nil (thenE_norm ⟨hBC, ?_⟩)
      refine DW.one (i := 7) (by kernel_rfl) rfl rfl ?_
      refine r_append rfl Try.underlying23 (.inl ⟨_, Try.underlying23⟩) Try.type5 rfl rfl rfl rfl rfl rfl (Own.blk (n := 1) hL rfl (by decide) rfl) (Bs.src hv8) (by simp only [maxLen, eight_len]; omega) (by rw [eight_len]; decide) ?_
      intro v3_7 w3_7 g3_7 hO3_7 hE3_7 hG3_7 hN3_7
      obtain ⟨eC, gC⟩ := appN eC hE3_7 (fun b hb => by cases hb; exact hLn) hG3_7
      have hBC := hBC.up hE3_7 (fun h => by cases h; omega)
      refine LW.nil (thenE_norm ⟨hBC, ?_⟩)
      refine DW.take (i := 8) rfl (by kernel_rfl) (by kernel_rfl) (by kernel_rfl) rfl rfl (fun u hu => x_assign ) hBC ?_
      refine DW.done (by kernel_rfl) ?_
      refine thenE_norm ?_
      refine cut (K := K5) [1, 4] (fun σ => ?_)
      simp only [setL, keepE, upd_get, ev, Nat.reduceEqDiff, ↓reduceIte]
      refine h5 _ _ ?_; clear h5; try clear K5
      refine CW.seq (fun K6 h6 => ?_)
      refine CW.region ?_
      refine r_fieldAddr rfl Try.underlying53 rfl Try.sizeOf42 (by decide) rfl ?_
      refine r_loadA rfl Try.isAgg42 Try.sizeOf42 rfl (Blk.cells (pre := [.int .i64 c, .int .i64 q]) (cs := cmdL k n s) (post := []) hBC) rfl ?_
      refine r_call rfl Try.call33 rfl (PutR_c k n s _ hs) ?_
      rintro _ w9 ⟨v9, rfl, hv9, hE9⟩
      refine ⟨_, rfl, ?_⟩
      have eC := Ext0.trans eC hE9
      have hO4 := hO3_7.up0 hE9
      have hpl := putM_len k n s.data.toList
      refine r_move rfl ?_
      refine r_extract rfl rfl rfl ?_
      refine r_extract rfl rfl rfl ?_
      refine r_assign rfl ?_
      refine r_assign rfl ?_
      refine LW.nil ?_
      refine thenE_norm ?_
      refine cut (K := K6) [4, 5] (fun σ => ?_)
      simp only [setL, keepE, upd_get, ev, Nat.reduceEqDiff, ↓reduceIte]
      refine h6 _ _ ?_; clear h6; try clear K6
      refine CW.seq (fun K7 h7 => ?_)
      refine CW.region ?_
      refine r_move rfl ?_
      refine r_move rfl ?_
      refine r_append rfl Try.underlying23 (.inl ⟨_, Try.underlying23⟩) Try.type5 rfl rfl rfl rfl rfl rfl hO4 (Bs.src hv9) (by simp only [maxLen, eight_len]; omega) (by show (1 + (eight q.toNat).length + (putM k n s.data.toList).1.length) * 1 ≤ 140737488355328; rw [eight_len]; omega) ?_
      intro v5_2 w5_2 g5_2 hO5_2 hE5_2 hG5_2 hN5_2
      obtain ⟨eC, gC⟩ := appN eC hE5_2 gC hG5_2
      refine r_assign rfl ?_
      refine r_assign rfl ?_
      refine LW.nil ?_
      refine thenE_norm (h7 _ _ ?_); clear h7; try clear K7
      refine CW.ret (ret2 Try.results42 (by simp only [upd_get, ev, Nat.reduceEqDiff, ↓reduceIte]; rfl) (by simp only [upd_get, ev, Nat.reduceEqDiff, ↓reduceIte]; rfl) ?_)
      rw [putReqM, if_pos hm]
      refine ⟨_, rfl, ?_, e1.trans eC⟩
      have h := hO5_2.sl
      unfold Bs
      rw [show ([UInt8.ofNat c.toNat] ++ eight q.toNat ++ (putM k n s.data.toList).1).length = 1 + (eight q.toNat).length + (putM k n s.data.toList).1.length from by simp only [List.length_append, List.length_cons, List.length_nil] <;> omega,
        show ([UInt8.ofNat c.toNat] ++ eight q.toNat ++ (putM k n s.data.toList).1).map u8v = [UInt8.ofNat c.toNat].map u8v ++ (eight q.toNat).map u8v ++ (putM k n s.data.toList).1.map u8v from by simp]
      exact h.mono fun b _ hb => by have := gC b hb; have := e1.size; show w.heap.size ≤ b; omega
    · refine DOp.of rfl rfl ?_
      refine r_call rfl Try.call52 rfl (Eight_c q _ (by omega) (by omega)) ?_
      rintro _ w8 ⟨v8, rfl, hv8, hE8⟩
      refine ⟨_, rfl, ?_⟩
      have hBC := hBC.up0 hE8
      have eC := Ext0.trans eC hE8
      try have hL := hL.up0 hE8
      refine LW.nil (thenE_norm ⟨hBC, ?_⟩)
      refine DW.one (i := 3) (by kernel_rfl) rfl rfl ?_
      refine r_buildSlice rfl Try.underlying23 Try.sizeOf5 Try.zeroValue5 rfl rfl rfl rfl ?_
      intro b3_3 w3_3 hb3_3 hs3_3 hE3_3 hB3_3
      have hBC := hBC.up0 hE3_3
      have eC := Ext0.trans eC hE3_3
      have hL : Blk w3_3 b3_3 5 ([UInt8.ofNat c.toNat].map u8v) := by simp only [List.map_cons, List.map_nil, u8v]; rw [hk8]; exact hB3_3
      have hLn : w1.heap.size ≤ b3_3 := by have := hE3d.size; first | omega | (have := hE8.size; omega)
      try have hv8 := hv8.up0 hE3_3
      refine LW.nil (thenE_norm ⟨hBC, ?_⟩)
      refine DW.one (i := 7) (by kernel_rfl) rfl rfl ?_
      refine r_append rfl Try.underlying23 (.inl ⟨_, Try.underlying23⟩) Try.type5 rfl rfl rfl rfl rfl rfl (Own.blk (n := 1) hL rfl (by decide) rfl) (Bs.src hv8) (by simp only [maxLen, eight_len]; omega) (by rw [eight_len]; decide) ?_
      intro v3_7 w3_7 g3_7 hO3_7 hE3_7 hG3_7 hN3_7
      obtain ⟨eC, gC⟩ := appN eC hE3_7 (fun b hb => by cases hb; exact hLn) hG3_7
      have hBC := hBC.up hE3_7 (fun h => by cases h; omega)
      refine LW.nil (thenE_norm ⟨hBC, ?_⟩)
      refine DW.take (i := 8) rfl (by kernel_rfl) (by kernel_rfl) (by kernel_rfl) rfl rfl (fun u hu => x_assign ) hBC ?_
      refine DW.done (by kernel_rfl) ?_
      refine thenE_norm ?_
      refine cut (K := K5) [1, 4] (fun σ => ?_)
      simp only [setL, keepE, upd_get, ev, Nat.reduceEqDiff, ↓reduceIte]
      refine h5 _ _ ?_; clear h5; try clear K5
      refine CW.seq (fun K8 h8 => ?_)
      refine CW.region ?_
      refine r_fieldAddr rfl Try.underlying53 rfl Try.sizeOf42 (by decide) rfl ?_
      refine r_loadA rfl Try.isAgg42 Try.sizeOf42 rfl (Blk.cells (pre := [.int .i64 c, .int .i64 q]) (cs := cmdL k n s) (post := []) hBC) rfl ?_
      refine r_call rfl Try.call33 rfl (PutR_c k n s _ hs) ?_
      rintro _ w9 ⟨v9, rfl, hv9, hE9⟩
      refine ⟨_, rfl, ?_⟩
      have eC := Ext0.trans eC hE9
      have hO4 := hO3_7.up0 hE9
      have hpl := putM_len k n s.data.toList
      refine r_move rfl ?_
      refine r_extract rfl rfl rfl ?_
      refine r_extract rfl rfl rfl ?_
      refine r_assign rfl ?_
      refine r_assign rfl ?_
      refine LW.nil ?_
      refine thenE_norm ?_
      refine cut (K := K8) [4, 5] (fun σ => ?_)
      simp only [setL, keepE, upd_get, ev, Nat.reduceEqDiff, ↓reduceIte]
      refine h8 _ _ ?_; clear h8; try clear K8
      refine CW.seq (fun K9 h9 => ?_)
      refine CW.region ?_
      refine r_move rfl ?_
      refine r_move rfl ?_
      refine r_append rfl Try.underlying23 (.inl ⟨_, Try.underlying23⟩) Try.type5 rfl rfl rfl rfl rfl rfl hO4 (Bs.src hv9) (by simp only [maxLen, eight_len]; omega) (by show (1 + (eight q.toNat).length + (putM k n s.data.toList).1.length) * 1 ≤ 140737488355328; rw [eight_len]; omega) ?_
      intro v5_2 w5_2 g5_2 hO5_2 hE5_2 hG5_2 hN5_2
      obtain ⟨eC, gC⟩ := appN eC hE5_2 gC hG5_2
      refine r_assign rfl ?_
      refine r_assign rfl ?_
      refine LW.nil ?_
      refine thenE_norm (h9 _ _ ?_); clear h9; try clear K9
      refine CW.ret (ret2 Try.results42 (by simp only [upd_get, ev, Nat.reduceEqDiff, ↓reduceIte]; rfl) (by simp only [upd_get, ev, Nat.reduceEqDiff, ↓reduceIte]; rfl) ?_)
      rw [putReqM, if_pos hm]
      refine ⟨_, rfl, ?_, e1.trans eC⟩
      have h := hO5_2.sl
      unfold Bs
      rw [show ([UInt8.ofNat c.toNat] ++ eight q.toNat ++ (putM k n s.data.toList).1).length = 1 + (eight q.toNat).length + (putM k n s.data.toList).1.length from by simp only [List.length_append, List.length_cons, List.length_nil] <;> omega,
        show ([UInt8.ofNat c.toNat] ++ eight q.toNat ++ (putM k n s.data.toList).1).map u8v = [UInt8.ofNat c.toNat].map u8v ++ (eight q.toNat).map u8v ++ (putM k n s.data.toList).1.map u8v from by simp]
      exact h.mono fun b _ hb => by have := gC b hb; have := e1.size; show w.heap.size ≤ b; omega

theorem GetReqR_c {F : Nat → Prop} {v : Value} {xs : List UInt8} (at_ : Int) (w : World) (hv : Bs F w v xs) :
    Calls Try.prog 44 #[v, .int .i64 at_] w fun e w' => e = .returned (.tuple #[reqV (getReqM xs at_).1.1 (getReqM xs at_).1.2.1 (getReqM xs at_).1.2.2.1 (getReqM xs at_).1.2.2.2.1 ⟨(getReqM xs at_).1.2.2.2.2.toArray⟩, .int .i64 (getReqM xs at_).2.1, .int .i64 (getReqM xs at_).2.2]) ∧ Ext0 w w' := by
  have hv' := hv
  obtain ⟨ao, cap, rfl, -, -, -⟩ := hv'.cell
  refine calls_of_CW Try.func44 rfl Try.ntmps44 (Nat.le_of_ble_eq_true rfl) ?_
  simp only [argE, argFrom, Nat.reduceAdd]
  refine CW.seq (fun K1 h1 => ?_)
  refine CW.region ?_
  refine r_alloc rfl Try.zeroValue53 rfl ?_
  intro b0_0 w0_0 hb0_0 hs0_0 hE0_0 hB0_0
  have k0 : Blk w0_0 b0_0 53 (reqL 0 0 0 0 (ByteArray.mk #[])) := hB0_0
  have hv1 := hv.up0 hE0_0
  refine r_assign rfl ?_
  refine r_assign rfl ?_
  refine LW.nil ?_
  refine thenE_norm (h1 _ _ ?_); clear h1; try clear K1
  refine CW.seq (fun K2 h2 => ?_)
  refine CW.region ?_
  refine r_move rfl ?_
  refine r_move rfl ?_
  refine r_call rfl Try.call30 rfl (ByteR_c at_ _ hv1) ?_
  rintro _ w2 ⟨rfl, rfl⟩
  refine ⟨_, rfl, ?_⟩
  refine r_move rfl ?_
  refine r_extract rfl rfl rfl ?_
  refine r_extract rfl rfl rfl ?_
  refine r_extract rfl rfl rfl ?_
  refine r_assign rfl ?_
  refine r_assign rfl ?_
  refine r_assign rfl ?_
  refine LW.nil ?_
  refine thenE_norm ?_
  refine cut (K := K2) [0, 1, 4, 7, 8] (fun σ => ?_)
  simp only [setL, keepE, upd_get, ev, Nat.reduceEqDiff, ↓reduceIte]
  refine h2 _ _ ?_; clear h2; try clear K2
  refine CW.seq (fun K3 h3 => ?_)
  refine CW.seq (fun K4 h4 => ?_)
  refine CW.region ?_
  refine r_move rfl ?_
  refine r_neq rfl rfl rfl ?_
  refine LW.nil ?_
  refine thenE_norm (h4 _ _ ?_); clear h4; try clear K4
  refine CW.cond rfl (fun hc1 => ?_) (fun hc1 => ?_)
  · try simp only [decide_eq_true_eq, decide_eq_false_iff_not, Bool.and_eq_true, Bool.or_eq_true, Bool.and_eq_false_iff, Bool.or_eq_false_iff, Bool.not_eq_true', Bool.not_eq_false', beq_iff_eq, bne_iff_ne] at hc1
    refine CW.seq (fun K5 h5 => ?_)
    refine CW.region ?_
    refine r_build rfl Try.underlying53 Try.zeroValue53 rfl (pl := [(0, 1), (1, 1), (2, 3)]) (by intro w; simp [go_sem]) rfl ?_
    refine r_move rfl ?_
    refine r_storeA Try.sizeOf53 rfl (by simp only [upd_get, ev, Nat.reduceEqDiff, ↓reduceIte] <;> rfl) rfl rfl rfl k0 (by decide) ?_
    intro w3_2 hs3_2 hE3_2 hB3_2
    refine r_assign rfl ?_
    refine r_assign rfl ?_
    refine LW.nil ?_
    refine thenE_norm (h5 _ _ ?_); clear h5; try clear K5
    refine CW.ret (thenE_ret (retC3 Try.results44 (by simp only [upd_get, ev, Nat.reduceEqDiff, ↓reduceIte] <;> rfl) (by simp only [upd_get, ev, Nat.reduceEqDiff, ↓reduceIte] <;> rfl) (by simp only [upd_get, ev, Nat.reduceEqDiff, ↓reduceIte] <;> rfl) Try.isAgg53 Try.sizeOf53 (hB3_2.cellsAll) rfl ?_))
    exact ⟨by rw [getReqM, if_pos hc1]; rfl, hE0_0.transN hE3_2 (fun x hx => by omega)⟩
  · try simp only [decide_eq_true_eq, decide_eq_false_iff_not, Bool.and_eq_true, Bool.or_eq_true, Bool.and_eq_false_iff, Bool.or_eq_false_iff, Bool.not_eq_true', Bool.not_eq_false', beq_iff_eq, bne_iff_ne] at hc1
    refine CW.skip ?_
    refine thenE_norm (h3 _ _ ?_); clear h3; try clear K3
    refine CW.seq (fun K6 h6 => ?_)
    refine CW.region ?_
    refine r_move rfl ?_
    refine r_move rfl ?_
    refine r_call rfl Try.call26 rfl (NumR_c _ _ hv1) ?_
    rintro _ w4 ⟨rfl, rfl⟩
    refine ⟨_, rfl, ?_⟩
    refine r_move rfl ?_
    refine r_extract rfl rfl rfl ?_
    refine r_extract rfl rfl rfl ?_
    refine r_extract rfl rfl rfl ?_
    refine r_assign rfl ?_
    refine r_assign rfl ?_
    refine r_assign rfl ?_
    refine LW.nil ?_
    refine thenE_norm ?_
    refine cut (K := K6) [0, 1, 4, 7, 8, 9] (fun σ => ?_)
    simp only [setL, keepE, upd_get, ev, Nat.reduceEqDiff, ↓reduceIte]
    refine h6 _ _ ?_; clear h6; try clear K6
    refine CW.seq (fun K7 h7 => ?_)
    refine CW.seq (fun K8 h8 => ?_)
    refine CW.region ?_
    refine r_move rfl ?_
    refine r_neq rfl rfl rfl ?_
    refine LW.nil ?_
    refine thenE_norm (h8 _ _ ?_); clear h8; try clear K8
    refine CW.cond rfl (fun hc2 => ?_) (fun hc2 => ?_)
    · try simp only [decide_eq_true_eq, decide_eq_false_iff_not, Bool.and_eq_true, Bool.or_eq_true, Bool.and_eq_false_iff, Bool.or_eq_false_iff, Bool.not_eq_true', Bool.not_eq_false', beq_iff_eq, bne_iff_ne] at hc2
      refine CW.seq (fun K9 h9 => ?_)
      refine CW.region ?_
      refine r_build rfl Try.underlying53 Try.zeroValue53 rfl (pl := [(0, 1), (1, 1), (2, 3)]) (by intro w; simp [go_sem]) rfl ?_
      refine r_move rfl ?_
      refine r_storeA Try.sizeOf53 rfl (by simp only [upd_get, ev, Nat.reduceEqDiff, ↓reduceIte] <;> rfl) rfl rfl rfl k0 (by decide) ?_
      intro w6_2 hs6_2 hE6_2 hB6_2
      refine r_assign rfl ?_
      refine r_assign rfl ?_
      refine LW.nil ?_
      refine thenE_norm (h9 _ _ ?_); clear h9; try clear K9
      refine CW.ret (thenE_ret (retC3 Try.results44 (by simp only [upd_get, ev, Nat.reduceEqDiff, ↓reduceIte] <;> rfl) (by simp only [upd_get, ev, Nat.reduceEqDiff, ↓reduceIte] <;> rfl) (by simp only [upd_get, ev, Nat.reduceEqDiff, ↓reduceIte] <;> rfl) Try.isAgg53 Try.sizeOf53 (hB6_2.cellsAll) rfl ?_))
      exact ⟨by rw [getReqM, if_neg hc1, if_pos hc2]; rfl, hE0_0.transN hE6_2 (fun x hx => by omega)⟩
    · try simp only [decide_eq_true_eq, decide_eq_false_iff_not, Bool.and_eq_true, Bool.or_eq_true, Bool.and_eq_false_iff, Bool.or_eq_false_iff, Bool.not_eq_true', Bool.not_eq_false', beq_iff_eq, bne_iff_ne] at hc2
      refine CW.skip ?_
      refine thenE_norm (h7 _ _ ?_); clear h7; try clear K7
      refine CW.seq (fun K10 h10 => ?_)
      refine CW.region ?_
      refine r_move rfl ?_
      refine r_move rfl ?_
      refine r_call rfl Try.call35 rfl (GetR_c _ _ hv1) ?_
      rintro _ w6 ⟨rfl, hE6⟩
      refine ⟨_, rfl, ?_⟩
      have k0 := k0.up0 hE6
      have e6 := hE0_0.trans hE6
      have hgl := getM_len xs (numM xs (byteM xs at_).2.1).2.1
      generalize hG : getM xs (numM xs (byteM xs at_).2.1).2.1 = G at *
      refine r_move rfl ?_
      refine r_extract rfl rfl rfl ?_
      refine r_extract rfl rfl rfl ?_
      refine r_extract rfl rfl rfl ?_
      refine r_alloc rfl Try.zeroValue42 rfl ?_
      intro b7_7 w7_7 hb7_7 hs7_7 hE7_7 hB7_7
      have a0 : Blk w7_7 b7_7 42 (cmdL 0 0 (ByteArray.mk #[])) := hB7_7
      have k0 := k0.up0 hE7_7
      have l0 := hE6.size
      refine r_storeA Try.sizeOf42 rfl (by simp only [upd_get, ev, Nat.reduceEqDiff, ↓reduceIte] <;> rfl) rfl rfl rfl a0 (by decide) ?_
      intro w7_8 hs7_8 hE7_8 hB7_8
      have a1 : Blk w7_8 b7_7 42 (cmdL G.1.1 G.1.2.1 ⟨G.1.2.2.toArray⟩) := hB7_8
      have k0 := k0.up hE7_8 (by omega)
      have e7 : Ext0 w w7_8 := (e6.trans hE7_7).transN hE7_8 (fun x hx => by omega)
      refine r_assign rfl ?_
      refine r_assign rfl ?_
      refine LW.nil ?_
      refine thenE_norm ?_
      refine cut (K := K10) [1, 4, 7, 8, 9, 10] (fun σ => ?_)
      simp only [setL, keepE, upd_get, ev, Nat.reduceEqDiff, ↓reduceIte]
      refine h10 _ _ ?_; clear h10; try clear K10
      refine CW.seq (fun K11 h11 => ?_)
      refine CW.seq (fun K12 h12 => ?_)
      refine CW.region ?_
      refine r_move rfl ?_
      refine r_neq rfl rfl rfl ?_
      refine LW.nil ?_
      refine thenE_norm (h12 _ _ ?_); clear h12; try clear K12
      refine CW.cond rfl (fun hc3 => ?_) (fun hc3 => ?_)
      · try simp only [decide_eq_true_eq, decide_eq_false_iff_not, Bool.and_eq_true, Bool.or_eq_true, Bool.and_eq_false_iff, Bool.or_eq_false_iff, Bool.not_eq_true', Bool.not_eq_false', beq_iff_eq, bne_iff_ne] at hc3
        refine CW.seq (fun K13 h13 => ?_)
        refine CW.region ?_
        refine r_build rfl Try.underlying53 Try.zeroValue53 rfl (pl := [(0, 1), (1, 1), (2, 3)]) (by intro w; simp [go_sem]) rfl ?_
        refine r_move rfl ?_
        refine r_storeA Try.sizeOf53 rfl (by simp only [upd_get, ev, Nat.reduceEqDiff, ↓reduceIte] <;> rfl) rfl rfl rfl k0 (by decide) ?_
        intro w9_2 hs9_2 hE9_2 hB9_2
        refine r_assign rfl ?_
        refine r_assign rfl ?_
        refine LW.nil ?_
        refine thenE_norm (h13 _ _ ?_); clear h13; try clear K13
        refine CW.ret (thenE_ret (retC3 Try.results44 (by simp only [upd_get, ev, Nat.reduceEqDiff, ↓reduceIte] <;> rfl) (by simp only [upd_get, ev, Nat.reduceEqDiff, ↓reduceIte] <;> rfl) (by simp only [upd_get, ev, Nat.reduceEqDiff, ↓reduceIte] <;> rfl) Try.isAgg53 Try.sizeOf53 (hB9_2.cellsAll) rfl ?_))
        exact ⟨by rw [getReqM, if_neg hc1, if_neg hc2, hG, if_pos hc3]; rfl, e7.transN hE9_2 (fun x hx => by omega)⟩
      · try simp only [decide_eq_true_eq, decide_eq_false_iff_not, Bool.and_eq_true, Bool.or_eq_true, Bool.and_eq_false_iff, Bool.or_eq_false_iff, Bool.not_eq_true', Bool.not_eq_false', beq_iff_eq, bne_iff_ne] at hc3
        refine CW.skip ?_
        refine thenE_norm (h11 _ _ ?_); clear h11; try clear K11
        refine CW.seq (fun K14 h14 => ?_)
        refine CW.region ?_
        refine r_move rfl ?_
        refine r_move rfl ?_
        refine r_loadA rfl Try.isAgg42 Try.sizeOf42 rfl (a1.cellsAll) rfl ?_
        refine r_build rfl Try.underlying53 Try.zeroValue53 rfl (pl := [(0, 1), (1, 1), (2, 3)]) (by intro w; simp [go_sem]) rfl ?_
        refine r_alloc rfl Try.zeroValue53 rfl ?_
        intro b10_4 w10_4 hb10_4 hs10_4 hE10_4 hB10_4
        have k1 : Blk w10_4 b10_4 53 (reqL 0 0 0 0 (ByteArray.mk #[])) := hB10_4
        have k0 := k0.up0 hE10_4
        refine r_storeA Try.sizeOf53 rfl (by simp only [upd_get, ev, Nat.reduceEqDiff, ↓reduceIte] <;> rfl) rfl rfl rfl k1 (by decide) ?_
        intro w10_5 hs10_5 hE10_5 hB10_5
        have k1 : Blk w10_5 b10_4 53 (reqL (byteM xs at_).1 (numM xs (byteM xs at_).2.1).1 G.1.1 G.1.2.1 ⟨G.1.2.2.toArray⟩) := hB10_5
        have k0 := k0.up hE10_5 (by omega)
        have e8 : Ext0 w w10_5 := (e7.trans hE10_4).transN hE10_5 (fun x hx => by omega)
        refine LW.nil ?_
        refine thenE_norm ?_
        refine cut (K := K14) [1, 4, 11] (fun σ => ?_)
        simp only [setL, keepE, upd_get, ev, Nat.reduceEqDiff, ↓reduceIte]
        refine h14 _ _ ?_; clear h14; try clear K14
        refine CW.seq (fun K15 h15 => ?_)
        refine CW.seq (fun K16 h16 => ?_)
        refine CW.region ?_
        refine r_loadA rfl Try.isAgg53 Try.sizeOf53 rfl (k1.cellsAll) rfl ?_
        refine r_call rfl Try.call46 rfl (MayReqR_c (byteM xs at_).1 (numM xs (byteM xs at_).2.1).1 G.1.1 G.1.2.1 ⟨G.1.2.2.toArray⟩ _) ?_
        rintro _ w8 ⟨rfl, hE8⟩
        refine ⟨_, rfl, ?_⟩
        have k0 := k0.up0 hE8
        have k1 := k1.up0 hE8
        have e9 := e8.trans hE8
        refine r_not rfl rfl ?_
        refine LW.nil ?_
        refine thenE_norm (h16 _ _ ?_); clear h16; try clear K16
        refine CW.cond rfl (fun hc4 => ?_) (fun hc4 => ?_)
        · try simp only [decide_eq_true_eq, decide_eq_false_iff_not, Bool.and_eq_true, Bool.or_eq_true, Bool.and_eq_false_iff, Bool.or_eq_false_iff, Bool.not_eq_true', Bool.not_eq_false', beq_iff_eq, bne_iff_ne] at hc4
          refine CW.seq (fun K17 h17 => ?_)
          refine CW.region ?_
          refine r_build rfl Try.underlying53 Try.zeroValue53 rfl (pl := [(0, 1), (1, 1), (2, 3)]) (by intro w; simp [go_sem]) rfl ?_
          refine r_storeA Try.sizeOf53 rfl (by simp only [upd_get, ev, Nat.reduceEqDiff, ↓reduceIte] <;> rfl) rfl rfl rfl k0 (by decide) ?_
          intro w12_1 hs12_1 hE12_1 hB12_1
          refine r_assign rfl ?_
          refine r_assign rfl ?_
          refine LW.nil ?_
          refine thenE_norm (h17 _ _ ?_); clear h17; try clear K17
          refine CW.ret (thenE_ret (retC3 Try.results44 (by simp only [upd_get, ev, Nat.reduceEqDiff, ↓reduceIte] <;> rfl) (by simp only [upd_get, ev, Nat.reduceEqDiff, ↓reduceIte] <;> rfl) (by simp only [upd_get, ev, Nat.reduceEqDiff, ↓reduceIte] <;> rfl) Try.isAgg53 Try.sizeOf53 (hB12_1.cellsAll) rfl ?_))
          exact ⟨by rw [getReqM, if_neg hc1, if_neg hc2, hG, if_neg hc3, if_neg (by simpa using hc4)]; rfl, e9.transN hE12_1 (fun x hx => by omega)⟩
        · try simp only [decide_eq_true_eq, decide_eq_false_iff_not, Bool.and_eq_true, Bool.or_eq_true, Bool.and_eq_false_iff, Bool.or_eq_false_iff, Bool.not_eq_true', Bool.not_eq_false', beq_iff_eq, bne_iff_ne] at hc4
          refine CW.skip ?_
          refine thenE_norm (h15 _ _ ?_); clear h15; try clear K15
          refine CW.seq (fun K18 h18 => ?_)
          refine CW.region ?_
          refine r_loadA rfl Try.isAgg53 Try.sizeOf53 rfl (k1.cellsAll) rfl ?_
          refine r_move rfl ?_
          refine r_storeA Try.sizeOf53 rfl (by simp only [upd_get, ev, Nat.reduceEqDiff, ↓reduceIte] <;> rfl) rfl rfl rfl k0 (by decide) ?_
          intro w13_2 hs13_2 hE13_2 hB13_2
          refine r_assign rfl ?_
          refine r_assign rfl ?_
          refine LW.nil ?_
          refine thenE_norm ?_
          refine cut (K := K18) [4, 5, 6] (fun σ => ?_)
          simp only [setL, keepE, upd_get, ev, Nat.reduceEqDiff, ↓reduceIte]
          refine h18 _ _ ?_; clear h18; try clear K18
          refine CW.ret (retC3 Try.results44 (by simp only [upd_get, ev, Nat.reduceEqDiff, ↓reduceIte] <;> rfl) (by simp only [upd_get, ev, Nat.reduceEqDiff, ↓reduceIte] <;> rfl) (by simp only [upd_get, ev, Nat.reduceEqDiff, ↓reduceIte] <;> rfl) Try.isAgg53 Try.sizeOf53 (hB13_2.cellsAll) rfl ?_)
          exact ⟨by rw [getReqM, if_neg hc1, if_neg hc2, hG, if_neg hc3, if_pos (by simpa using hc4)]; rfl, e9.transN hE13_2 (fun x hx => by omega)⟩
end Go.Proofs.Ytgcmafgcigipdaa
