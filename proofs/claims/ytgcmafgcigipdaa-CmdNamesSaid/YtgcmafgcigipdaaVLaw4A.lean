/-
  The walks of layer 4's laws, the first part: awake, CmdAll.
-/
import Derived.Test.YtgcmafgcigipdaaVCmdC
import Derived.Test.YtgcmafgcigipdaaVEq
namespace Go.Proofs.Ytgcmafgcigipdaa
set_option linter.unusedSimpArgs false
set_option linter.unusedVariables false
set_option maxRecDepth 20000
open Go.V Go.RowKit

theorem awake4_c (w : World) :
    Calls Try.prog 31 #[] w fun e w' => e = .returned (.bool true) ∧ Ext0 w w' := by
  refine calls_of_CW Try.func31 rfl Try.ntmps31 (Nat.le_of_ble_eq_true rfl) ?_
  simp only [argE, argFrom, Nat.reduceAdd]
  refine CW.seq (fun K1 h1 => ?_)
  refine CW.region ?_
  refine r_assign rfl ?_
  refine LW.nil ?_
  refine thenE_norm (h1 _ _ ?_); clear h1; try clear K1
  refine CW.seq (fun K2 h2 => ?_)
  refine CW.region ?_
  refine r_build rfl Try.underlying42 Try.zeroValue42 rfl (pl := [(0, 1), (1, 1), (2, 1)]) (by intro w; simp [go_sem]) rfl ?_
  refine r_call rfl Try.call32 rfl (Put_c 1 0 (ByteArray.mk #[]) _ (by decide)) ?_
  rintro _ w1 ⟨v1, rfl, hv1, hE1⟩
  refine ⟨_, rfl, ?_⟩
  have q1 : Bs (New w) w1 v1 [1, 0, 0, 0, 0, 0, 0, 0, 0, 0] := hv1
  refine r_move rfl ?_
  refine r_extract rfl rfl rfl ?_
  refine r_extract rfl rfl rfl ?_
  refine r_assign rfl ?_
  refine r_assign rfl ?_
  refine LW.nil ?_
  refine thenE_norm ?_
  refine cut (K := K2) [1, 2] (fun σ => ?_)
  simp only [setL, keepE, upd_get, ev, Nat.reduceEqDiff, ↓reduceIte]
  refine h2 _ _ ?_; clear h2; try clear K2
  refine CW.seq (fun K3 h3 => ?_)
  refine CW.region ?_
  refine r_move rfl ?_
  refine r_call rfl Try.call34 rfl (Get_c 0 _ q1) ?_
  rintro _ w2 ⟨rfl, hE2⟩
  refine ⟨_, rfl, ?_⟩
  have e2 := hE1.trans hE2
  have q2 := q1.up0 hE2
  have hg : getM [1, 0, 0, 0, 0, 0, 0, 0, 0, 0] 0 = ((1, 0, []), 10, 0) := by decide +kernel
  rw [hg]
  refine r_move rfl ?_
  refine r_extract rfl rfl rfl ?_
  refine r_extract rfl rfl rfl ?_
  refine r_extract rfl rfl rfl ?_
  refine r_alloc rfl Try.zeroValue42 rfl ?_
  intro b2_6 w2_6 hb2_6 hs2_6 hE2_6 hB2_6
  have k0 : Blk w2_6 b2_6 42 (cmdL 0 0 (ByteArray.mk #[])) := hB2_6
  have e3 := e2.trans hE2_6
  have q3 := q2.up0 hE2_6
  refine r_storeA Try.sizeOf42 rfl (by simp only [upd_get, ev, Nat.reduceEqDiff, ↓reduceIte] <;> rfl) rfl rfl rfl k0 (by decide) ?_
  intro w2_7 hs2_7 hE2_7 hB2_7
  have k0 : Blk w2_7 b2_6 42 (cmdL 1 0 (ByteArray.mk #[])) := hB2_7
  have e4 : Ext0 w w2_7 := e3.transN hE2_7 (fun x hx => by have := e2.size; omega)
  have q4 : Bs (fun b => b < w2.heap.size) w2_7 v1 [1, 0, 0, 0, 0, 0, 0, 0, 0, 0] := Bs.up ((show Bs (fun b => b < w2.heap.size) w2 v1 _ from Sl.mono q2 (fun b hb _ => hb)).up0 hE2_6) hE2_7 (fun b hb h => by omega)
  refine r_assign rfl ?_
  refine r_assign rfl ?_
  refine LW.nil ?_
  refine thenE_norm ?_
  refine cut (K := K3) [1, 2, 3, 4, 5] (fun σ => ?_)
  simp only [setL, keepE, upd_get, ev, Nat.reduceEqDiff, ↓reduceIte]
  refine h3 _ _ ?_; clear h3; try clear K3
  refine CW.seq (fun K4 h4 => ?_)
  refine CW.region ?_
  refine r_move rfl ?_
  refine r_b2s rfl Try.underlying23 Try.underlying5 Try.underlying9 rfl q4 rfl ?_
  skip
  refine r_eqlS rfl rfl rfl ?_
  refine r_move rfl ?_
  refine LW.known (t := 20) (c := true) rfl rfl (fun hg3_4 => ?_)
  refine LW.want rfl rfl hg3_4 ?_
  refine r_move rfl ?_
  refine LW.want rfl rfl hg3_4 ?_
  refine r_eql rfl rfl rfl ?_
  refine r_pickT rfl rfl hg3_4 ?_
  refine r_move rfl ?_
  refine LW.known (t := 24) (c := true) rfl (by decide +kernel) (fun hg3_8 => ?_)
  refine LW.want rfl rfl hg3_8 ?_
  refine r_loadA rfl Try.isAgg42 Try.sizeOf42 rfl (k0.cellsAll) rfl ?_
  refine LW.want rfl rfl hg3_8 ?_
  refine r_build rfl Try.underlying42 Try.zeroValue42 rfl (pl := [(0, 1), (1, 1), (2, 1)]) (by intro w; simp [go_sem]) rfl ?_
  refine LW.want rfl rfl hg3_8 ?_
  refine r_eqlG rfl (by kernel_rfl) rfl rfl (EqA.struct Try.underlying42 (by kernel_rfl) (EqF.one rfl Try.isAgg3 rfl rfl (EqA.int Try.underlying3) (EqF.one rfl Try.isAgg3 rfl rfl (EqA.int Try.underlying3) (EqF.one rfl Try.isAgg9 rfl rfl (EqA.str Try.underlying9) EqF.nil)))) ?_
  refine r_pickT rfl rfl hg3_8 ?_
  refine r_move rfl ?_
  refine LW.known (t := 29) (c := true) rfl rfl (fun hg3_13 => ?_)
  refine LW.want rfl rfl hg3_13 ?_
  refine r_move rfl ?_
  refine LW.want rfl rfl hg3_13 ?_
  refine r_eql rfl rfl rfl ?_
  refine r_pickT rfl rfl hg3_13 ?_
  refine r_move rfl ?_
  refine LW.known (t := 33) (c := true) rfl rfl (fun hg3_17 => ?_)
  refine LW.want rfl rfl hg3_17 ?_
  refine r_move rfl ?_
  refine LW.want rfl rfl hg3_17 ?_
  refine r_eql rfl rfl rfl ?_
  refine r_pickT rfl rfl hg3_17 ?_
  refine r_move rfl ?_
  refine LW.known (t := 37) (c := true) rfl rfl (fun hg3_21 => ?_)
  refine LW.want rfl rfl hg3_21 ?_
  refine r_call rfl Try.call38 rfl (Name_c (ByteArray.mk #[97, 45, 48]) _ (by decide)) ?_
  rintro _ w5 ⟨rfl, rfl⟩
  refine ⟨_, rfl, ?_⟩
  refine r_pickT rfl rfl hg3_21 ?_
  refine r_move rfl ?_
  refine LW.known (t := 40) (c := true) rfl (by decide +kernel) (fun hg3_24 => ?_)
  refine LW.want rfl rfl hg3_24 ?_
  refine r_call rfl Try.call38 rfl (Name_c (ByteArray.mk #[]) _ (by decide)) ?_
  rintro _ w6 ⟨rfl, rfl⟩
  refine ⟨_, rfl, ?_⟩
  refine LW.want rfl rfl hg3_24 ?_
  refine r_not rfl rfl ?_
  refine r_pickT rfl rfl hg3_24 ?_
  refine r_assign rfl ?_
  refine LW.nil ?_
  refine thenE_norm ?_
  refine cut (K := K4) [0] (fun σ => ?_)
  simp only [setL, keepE, upd_get, ev, Nat.reduceEqDiff, ↓reduceIte]
  refine h4 _ _ ?_; clear h4; try clear K4
  refine CW.ret (ret1 Try.results31 (by simp only [upd_get, ev, Nat.reduceEqDiff, ↓reduceIte]; rfl) ?_)
  exact ⟨by rfl, e4⟩

theorem CmdAll_c {F : Nat → Prop} {b : Value} {xs : List UInt8} (k n : Int) (c s : ByteArray) (at_ : Int) (w : World) (hb : Bs F w b xs) (hcl : c.size ≤ 9223372036854775807) (hsl : s.size ≤ 9223372036854775807) :
    Calls Try.prog 9 #[cmdV k n c, b, .int .i64 at_, .string s] w fun e w' => e = .returned (.bool true) ∧ Ext0 w w' := by
  have hb' := hb
  obtain ⟨ao, cap, rfl, hl, hm, -⟩ := hb.cell
  refine calls_of_CW Try.func9 rfl Try.ntmps9 (Nat.le_of_ble_eq_true rfl) ?_
  simp only [argE, argFrom, Nat.reduceAdd]
  refine CW.seq (fun K1 h1 => ?_)
  refine CW.region ?_
  refine r_box rfl (by simp only [upd_get, ev, Nat.reduceEqDiff, ↓reduceIte] <;> rfl) rfl ?_
  intro b0_0 w0_0 hb0_0 hs0_0 hE0_0 hB0_0
  have k0 : Blk w0_0 b0_0 42 (cmdL k n c) := hB0_0
  refine r_assign rfl ?_
  refine LW.nil ?_
  refine thenE_norm (h1 _ _ ?_); clear h1; try clear K1
  refine CW.seq (fun K2 h2 => ?_)
  refine CW.seq (fun K3 h3 => ?_)
  refine CW.region ?_
  refine r_fieldAddr rfl Try.underlying42 rfl Try.sizeOf9 (by decide) rfl ?_
  refine r_load rfl Try.isAgg9 rfl (k0.cell (o := 2) rfl) ?_
  refine r_lenS rfl Try.underlying9 rfl ?_
  refine r_gtr rfl rfl rfl ?_
  refine r_move rfl ?_
  refine' LW.grpOr (n := 4) (ts := [1, 2, 3, 4, 28]) (d := 27) (tj := 23) rfl (fun hg1_5 => ?_) (fun hg1_5 => ?_) (fun σ => ?_)
  rotate_left
  · simp only [List.take_succ_cons, List.take_zero]
    have hg1_5P := hg1_5
    try simp only [decide_eq_true_eq, decide_eq_false_iff_not, Bool.and_eq_true, Bool.or_eq_true, Bool.and_eq_false_iff, Bool.or_eq_false_iff, Bool.not_eq_true', Bool.not_eq_false', beq_iff_eq, bne_iff_ne] at hg1_5P
    refine LW.want rfl rfl hg1_5 ?_
    refine r_move rfl ?_
    refine LW.want rfl rfl hg1_5 ?_
    refine r_len rfl Try.underlying23 rfl ?_
    refine LW.want rfl rfl hg1_5 ?_
    refine r_gtr rfl rfl rfl ?_
    refine r_pickF rfl rfl hg1_5 ?_
    refine LW.nil (thenE_norm ⟨rfl, rfl, rfl⟩)
  · simp only [List.take_succ_cons, List.take_zero]
    refine LW.skip rfl (fun _ e => by cases e; decide) rfl hg1_5 ?_
    refine LW.skip rfl (fun _ e => by cases e; decide) rfl hg1_5 ?_
    refine LW.skip rfl (fun _ e => by cases e; decide) rfl hg1_5 ?_
    refine r_pickT rfl rfl hg1_5 ?_
    refine LW.nil (thenE_norm ⟨rfl, rfl, rfl⟩)
  simp only [setL, keepE, upd_get, ev, Nat.reduceEqDiff, ↓reduceIte]; simp only [List.drop_succ_cons, List.drop_zero]
  refine r_move rfl ?_
  refine' LW.grpOr (n := 4) (ts := [1, 2, 3, 4]) (d := 32) (tj := 28) rfl (fun hg1_10 => ?_) (fun hg1_10 => ?_) (fun σ => ?_)
  rotate_left
  · simp only [List.take_succ_cons, List.take_zero]
    have hg1_10P := hg1_10
    try simp only [decide_eq_true_eq, decide_eq_false_iff_not, Bool.and_eq_true, Bool.or_eq_true, Bool.and_eq_false_iff, Bool.or_eq_false_iff, Bool.not_eq_true', Bool.not_eq_false', beq_iff_eq, bne_iff_ne] at hg1_10P
    refine LW.want rfl rfl hg1_10 ?_
    refine r_move rfl ?_
    refine LW.want rfl rfl hg1_10 ?_
    refine r_lenS rfl Try.underlying9 rfl ?_
    refine LW.want rfl rfl hg1_10 ?_
    refine r_gtr rfl rfl rfl ?_
    refine r_pickF rfl rfl hg1_10 ?_
    refine LW.nil (thenE_norm ⟨rfl, rfl, rfl⟩)
  · simp only [List.take_succ_cons, List.take_zero]
    refine LW.skip rfl (fun _ e => by cases e; decide) rfl hg1_10 ?_
    refine LW.skip rfl (fun _ e => by cases e; decide) rfl hg1_10 ?_
    refine LW.skip rfl (fun _ e => by cases e; decide) rfl hg1_10 ?_
    refine r_pickT rfl rfl hg1_10 ?_
    refine LW.nil (thenE_norm ⟨rfl, rfl, rfl⟩)
  simp only [setL, keepE, upd_get, ev, Nat.reduceEqDiff, ↓reduceIte]; simp only [List.drop_succ_cons, List.drop_zero]
  refine LW.nil ?_
  refine thenE_norm (h3 _ _ ?_); clear h3; try clear K3
  refine CW.cond rfl (fun hc1 => ?_) (fun hc1 => ?_)
  · try simp only [decide_eq_true_eq, decide_eq_false_iff_not, Bool.and_eq_true, Bool.or_eq_true, Bool.and_eq_false_iff, Bool.or_eq_false_iff, Bool.not_eq_true', Bool.not_eq_false', beq_iff_eq, bne_iff_ne] at hc1
    refine CW.seq (fun K4 h4 => ?_)
    refine CW.region ?_
    refine r_call rfl Try.call31 rfl (awake4_c _) ?_
    rintro _ wa ⟨rfl, hEa⟩
    refine ⟨_, rfl, ?_⟩
    refine r_assign rfl ?_
    refine LW.nil ?_
    refine thenE_norm (h4 _ _ ?_); clear h4; try clear K4
    refine CW.ret (thenE_ret (ret1 Try.results9 (by simp only [upd_get, ev, Nat.reduceEqDiff, ↓reduceIte]; rfl) ?_))
    exact ⟨rfl, hE0_0.trans hEa⟩
  · try simp only [decide_eq_true_eq, decide_eq_false_iff_not, Bool.and_eq_true, Bool.or_eq_true, Bool.and_eq_false_iff, Bool.or_eq_false_iff, Bool.not_eq_true', Bool.not_eq_false', beq_iff_eq, bne_iff_ne] at hc1
    refine CW.skip ?_
    refine thenE_norm (h2 _ _ ?_); clear h2; try clear K2
    refine CW.seq (fun K5 h5 => ?_)
    refine CW.region ?_
    refine r_loadA rfl Try.isAgg42 Try.sizeOf42 rfl (k0.cellsAll) rfl ?_
    refine r_call rfl Try.call32 rfl (Put_c k n c _ hcl) ?_
    rintro _ w1 ⟨v1, rfl, hv1, hE1⟩
    refine ⟨_, rfl, ?_⟩
    have k1 := k0.up0 hE1
    have e1 := hE0_0.trans hE1
    refine r_move rfl ?_
    refine r_extract rfl rfl rfl ?_
    refine r_extract rfl rfl rfl ?_
    refine r_assign rfl ?_
    refine r_assign rfl ?_
    refine LW.nil ?_
    refine thenE_norm (h5 _ _ ?_); clear h5; try clear K5
    refine CW.seq (fun K6 h6 => ?_)
    refine CW.region ?_
    refine r_loadA rfl Try.isAgg42 Try.sizeOf42 rfl (k1.cellsAll) rfl ?_
    refine r_call rfl Try.call33 rfl (PutR_c k n c _ hcl) ?_
    rintro _ w2 ⟨v2, rfl, hv2, hE2⟩
    refine ⟨_, rfl, ?_⟩
    have k2 := k1.up0 hE2
    have e2 := e1.trans hE2
    refine r_move rfl ?_
    refine r_extract rfl rfl rfl ?_
    refine r_extract rfl rfl rfl ?_
    refine r_assign rfl ?_
    refine r_assign rfl ?_
    refine LW.nil ?_
    refine thenE_norm ?_
    refine cut (K := K6) [1, 2, 3, 4, 9, 10, 11, 12] (fun σ => ?_)
    simp only [setL, keepE, upd_get, ev, Nat.reduceEqDiff, ↓reduceIte]
    refine h6 _ _ ?_; clear h6; try clear K6
    refine CW.seq (fun K7 h7 => ?_)
    refine CW.region ?_
    refine r_move rfl ?_
    refine r_move rfl ?_
    refine r_call rfl Try.call34 rfl (Get_c at_ _ (hb'.up0 e2)) ?_
    rintro _ w3 ⟨rfl, hE3⟩
    refine ⟨_, rfl, ?_⟩
    have e3 := e2.trans hE3
    refine r_move rfl ?_
    refine r_extract rfl rfl rfl ?_
    refine r_extract rfl rfl rfl ?_
    refine r_extract rfl rfl rfl ?_
    refine r_alloc rfl Try.zeroValue42 rfl ?_
    intro b5_7 w5_7 hb5_7 hs5_7 hE5_7 hB5_7
    have e4 := e3.trans hE5_7
    have a0 : Blk w5_7 b5_7 42 (cmdL 0 0 (ByteArray.mk #[])) := hB5_7
    refine r_storeA Try.sizeOf42 rfl (by simp only [upd_get, ev, Nat.reduceEqDiff, ↓reduceIte] <;> rfl) rfl rfl rfl a0 (by decide) ?_
    intro w5_8 hs5_8 hE5_8 hB5_8
    have a1 : Blk w5_8 b5_7 42 (cmdL (getM xs at_).1.1 (getM xs at_).1.2.1 ⟨(getM xs at_).1.2.2.toArray⟩) := hB5_8
    have l2 : w2.heap.size ≤ w3.heap.size := hE3.size
    have k5 := ((k2.up0 hE3).up0 hE5_7).up hE5_8 (by have := k2.lt; omega)
    have e5 : Ext0 w w5_8 := e4.transN hE5_8 (fun x hx => by have := e3.size; omega)
    have p5 : Bs (fun b => b < w2.heap.size) w5_8 v1 _ := Bs.up (((show Bs (fun b => b < w2.heap.size) w2 v1 _ from Sl.mono (hv1.up0 hE2) (fun b hb _ => hb)).up0 hE3).up0 hE5_7) hE5_8 (fun b hb h => by omega)
    have q5 : Bs (fun b => b < w2.heap.size) w5_8 v2 _ := Bs.up (((show Bs (fun b => b < w2.heap.size) w2 v2 _ from Sl.mono hv2 (fun b hb _ => hb)).up0 hE3).up0 hE5_7) hE5_8 (fun b hb h => by omega)
    refine r_assign rfl ?_
    refine r_assign rfl ?_
    refine LW.nil ?_
    refine thenE_norm ?_
    refine cut (K := K7) [1, 2, 3, 4, 9, 10, 11, 12, 13, 14, 15] (fun σ => ?_)
    simp only [setL, keepE, upd_get, ev, Nat.reduceEqDiff, ↓reduceIte]
    refine h7 _ _ ?_; clear h7; try clear K7
    refine CW.seq (fun K8 h8 => ?_)
    refine CW.region ?_
    refine r_move rfl ?_
    refine r_move rfl ?_
    refine r_call rfl Try.call35 rfl (GetR_c at_ _ (hb'.up0 e5)) ?_
    rintro _ w6 ⟨rfl, hE6⟩
    refine ⟨_, rfl, ?_⟩
    have e6 := e5.trans hE6
    refine r_move rfl ?_
    refine r_extract rfl rfl rfl ?_
    refine r_extract rfl rfl rfl ?_
    refine r_extract rfl rfl rfl ?_
    refine r_alloc rfl Try.zeroValue42 rfl ?_
    intro b6_7 w6_7 hb6_7 hs6_7 hE6_7 hB6_7
    have e7 := e6.trans hE6_7
    have z0 : Blk w6_7 b6_7 42 (cmdL 0 0 (ByteArray.mk #[])) := hB6_7
    refine r_storeA Try.sizeOf42 rfl (by simp only [upd_get, ev, Nat.reduceEqDiff, ↓reduceIte] <;> rfl) rfl rfl rfl z0 (by decide) ?_
    intro w6_8 hs6_8 hE6_8 hB6_8
    have z1 : Blk w6_8 b6_7 42 (cmdL (getM xs at_).1.1 (getM xs at_).1.2.1 ⟨(getM xs at_).1.2.2.toArray⟩) := hB6_8
    have l6 : w5_8.heap.size ≤ w6.heap.size := hE6.size
    have l5 : w5_8.heap.size = w5_7.heap.size := hs5_8
    have k6 := ((k5.up0 hE6).up0 hE6_7).up hE6_8 (by have := k5.lt; omega)
    have a6 := ((a1.up0 hE6).up0 hE6_7).up hE6_8 (by have := a1.lt; omega)
    have e8 : Ext0 w w6_8 := e7.transN hE6_8 (fun x hx => by have := e6.size; omega)
    have p6 := ((p5.up0 hE6).up0 hE6_7).up hE6_8 (fun b hb h => by omega)
    have q6 := ((q5.up0 hE6).up0 hE6_7).up hE6_8 (fun b hb h => by omega)
    obtain ⟨ao1, cap1, rfl, -, -, -⟩ := p6.cell
    obtain ⟨ao2, cap2, rfl, -, -, -⟩ := q6.cell
    refine r_assign rfl ?_
    refine r_assign rfl ?_
    refine LW.nil ?_
    refine thenE_norm ?_
    refine cut (K := K8) [3, 4, 9, 10, 11, 12, 13, 14, 15, 16, 17, 18] (fun σ => ?_)
    simp only [setL, keepE, upd_get, ev, Nat.reduceEqDiff, ↓reduceIte]
    refine h8 _ _ ?_; clear h8; try clear K8
    refine CW.seq (fun K9 h9 => ?_)
    refine CW.draw (fun u => Ext Non w6_8 u) (by kernel_rfl) rfl (fun w7d hh7d hE7d => ?_)
    refine DW.take (i := 0) rfl (by kernel_rfl) (by kernel_rfl) (by kernel_rfl) rfl rfl (fun u hu => x_loadA Try.isAgg42 Try.sizeOf42 rfl ((k6.up0 hu).cellsAll) rfl) hE7d ?_
    refine DW.take (i := 2) rfl (by kernel_rfl) (by kernel_rfl) (by kernel_rfl) rfl rfl (fun u hu => x_loadA Try.isAgg42 Try.sizeOf42 rfl ((k6.up0 hu).cellsAll) rfl) hE7d ?_
    refine DW.one (i := 1) (by kernel_rfl) rfl rfl ?_
    refine r_call rfl Try.call36 rfl (May_c k n c _ hcl) ?_
    rintro _ w8 ⟨rfl, hE8⟩
    refine ⟨_, rfl, ?_⟩
    refine LW.nil (thenE_norm ⟨(hE7d.trans hE8), ?_⟩)
    refine DW.one (i := 3) (by kernel_rfl) rfl rfl ?_
    refine r_call rfl Try.call37 rfl (MayR_c k n c _) ?_
    rintro _ w9 ⟨rfl, hE9⟩
    refine ⟨_, rfl, ?_⟩
    refine LW.nil (thenE_norm ⟨((hE7d.trans hE8).trans hE9), ?_⟩)
    refine DW.take (i := 4) rfl (by kernel_rfl) (by kernel_rfl) (by kernel_rfl) rfl rfl (fun u hu => x_eqlB Try.underlying4 rfl rfl) ((hE7d.trans hE8).trans hE9) ?_
    refine DW.take (i := 5) rfl (by kernel_rfl) (by kernel_rfl) (by kernel_rfl) rfl rfl (fun u hu => x_move ) ((hE7d.trans hE8).trans hE9) ?_
    refine DW.known (t := 63) (c := true) rfl (by simp) (fun hg7_5 => ?_)
    refine DW.take (i := 6) rfl (by kernel_rfl) (by kernel_rfl) (by kernel_rfl) rfl (wantE rfl rfl hg7_5) (fun u hu => x_move ) ((hE7d.trans hE8).trans hE9) ?_
    refine DW.take (i := 8) rfl (by kernel_rfl) (by kernel_rfl) (by kernel_rfl) rfl (wantE rfl rfl hg7_5) (fun u hu => x_move ) ((hE7d.trans hE8).trans hE9) ?_
    refine DW.one (i := 7) (by kernel_rfl) rfl (wantE rfl rfl hg7_5) ?_
    refine r_call rfl Try.call38 rfl (Name_c s _ hsl) ?_
    rintro _ w10 ⟨rfl, rfl⟩
    refine ⟨_, rfl, ?_⟩
    refine LW.nil (thenE_norm ⟨((hE7d.trans hE8).trans hE9), ?_⟩)
    refine DW.one (i := 9) (by kernel_rfl) rfl (wantE rfl rfl hg7_5) ?_
    refine r_call rfl Try.call39 rfl (NameR_c s _) ?_
    rintro _ w11 ⟨rfl, rfl⟩
    refine ⟨_, rfl, ?_⟩
    refine LW.nil (thenE_norm ⟨((hE7d.trans hE8).trans hE9), ?_⟩)
    refine DW.take (i := 10) rfl (by kernel_rfl) (by kernel_rfl) (by kernel_rfl) rfl (wantE rfl rfl hg7_5) (fun u hu => x_eqlB Try.underlying4 rfl rfl) ((hE7d.trans hE8).trans hE9) ?_
    refine DW.take (i := 11) rfl (by kernel_rfl) (by kernel_rfl) (by kernel_rfl) rfl rfl (fun u hu => x_pickT rfl hg7_5) ((hE7d.trans hE8).trans hE9) ?_
    refine DW.take (i := 12) rfl (by kernel_rfl) (by kernel_rfl) (by kernel_rfl) rfl rfl (fun u hu => x_move ) ((hE7d.trans hE8).trans hE9) ?_
    refine DW.known (t := 70) (c := true) rfl (by simp) (fun hg7_12 => ?_)
    refine DW.take (i := 13) rfl (by kernel_rfl) (by kernel_rfl) (by kernel_rfl) rfl (wantE rfl rfl hg7_12) (fun u hu => x_move ) ((hE7d.trans hE8).trans hE9) ?_
    refine DW.take (i := 14) rfl (by kernel_rfl) (by kernel_rfl) (by kernel_rfl) rfl (wantE rfl rfl hg7_12) (fun u hu => x_b2s Try.underlying23 Try.underlying5 Try.underlying9 rfl (p6.up0 hu) rfl) ((hE7d.trans hE8).trans hE9) ?_
    refine DW.take (i := 15) rfl (by kernel_rfl) (by kernel_rfl) (by kernel_rfl) rfl (wantE rfl rfl hg7_12) (fun u hu => x_move ) ((hE7d.trans hE8).trans hE9) ?_
    refine DW.take (i := 16) rfl (by kernel_rfl) (by kernel_rfl) (by kernel_rfl) rfl (wantE rfl rfl hg7_12) (fun u hu => x_b2s Try.underlying23 Try.underlying5 Try.underlying9 rfl (q6.up0 hu) rfl) ((hE7d.trans hE8).trans hE9) ?_
    refine DW.take (i := 17) rfl (by kernel_rfl) (by kernel_rfl) (by kernel_rfl) rfl (wantE rfl rfl hg7_12) (fun u hu => x_eqlS rfl rfl) ((hE7d.trans hE8).trans hE9) ?_
    refine DW.take (i := 18) rfl (by kernel_rfl) (by kernel_rfl) (by kernel_rfl) rfl rfl (fun u hu => x_pickT rfl hg7_12) ((hE7d.trans hE8).trans hE9) ?_
    refine DW.take (i := 19) rfl (by kernel_rfl) (by kernel_rfl) (by kernel_rfl) rfl rfl (fun u hu => x_move ) ((hE7d.trans hE8).trans hE9) ?_
    refine DW.known (t := 77) (c := true) rfl (by simp) (fun hg7_19 => ?_)
    refine DW.take (i := 20) rfl (by kernel_rfl) (by kernel_rfl) (by kernel_rfl) rfl (wantE rfl rfl hg7_19) (fun u hu => x_move ) ((hE7d.trans hE8).trans hE9) ?_
    refine DW.take (i := 21) rfl (by kernel_rfl) (by kernel_rfl) (by kernel_rfl) rfl (wantE rfl rfl hg7_19) (fun u hu => x_move ) ((hE7d.trans hE8).trans hE9) ?_
    refine DW.take (i := 22) rfl (by kernel_rfl) (by kernel_rfl) (by kernel_rfl) rfl (wantE rfl rfl hg7_19) (fun u hu => x_eql rfl rfl) ((hE7d.trans hE8).trans hE9) ?_
    refine DW.take (i := 23) rfl (by kernel_rfl) (by kernel_rfl) (by kernel_rfl) rfl rfl (fun u hu => x_pickT rfl hg7_19) ((hE7d.trans hE8).trans hE9) ?_
    refine DW.take (i := 24) rfl (by kernel_rfl) (by kernel_rfl) (by kernel_rfl) rfl rfl (fun u hu => x_move ) ((hE7d.trans hE8).trans hE9) ?_
    refine DW.known (t := 82) (c := true) rfl (by simp) (fun hg7_24 => ?_)
    refine DW.take (i := 25) rfl (by kernel_rfl) (by kernel_rfl) (by kernel_rfl) rfl (wantE rfl rfl hg7_24) (fun u hu => x_loadA Try.isAgg42 Try.sizeOf42 rfl ((a6.up0 hu).cellsAll) rfl) ((hE7d.trans hE8).trans hE9) ?_
    refine DW.take (i := 26) rfl (by kernel_rfl) (by kernel_rfl) (by kernel_rfl) rfl (wantE rfl rfl hg7_24) (fun u hu => x_loadA Try.isAgg42 Try.sizeOf42 rfl ((z1.up0 hu).cellsAll) rfl) ((hE7d.trans hE8).trans hE9) ?_
    refine DW.take (i := 27) rfl (by kernel_rfl) (by kernel_rfl) (by kernel_rfl) rfl (wantE rfl rfl hg7_24) (fun u hu => x_eqlG (by kernel_rfl) rfl rfl (EqA.struct Try.underlying42 (by kernel_rfl) (EqF.one rfl Try.isAgg3 rfl rfl (EqA.int Try.underlying3) (EqF.one rfl Try.isAgg3 rfl rfl (EqA.int Try.underlying3) (EqF.one rfl Try.isAgg9 rfl rfl (EqA.str Try.underlying9) EqF.nil))))) ((hE7d.trans hE8).trans hE9) ?_
    refine DW.take (i := 28) rfl (by kernel_rfl) (by kernel_rfl) (by kernel_rfl) rfl rfl (fun u hu => x_pickT rfl hg7_24) ((hE7d.trans hE8).trans hE9) ?_
    refine DW.take (i := 29) rfl (by kernel_rfl) (by kernel_rfl) (by kernel_rfl) rfl rfl (fun u hu => x_move ) ((hE7d.trans hE8).trans hE9) ?_
    refine DW.known (t := 87) (c := true) rfl (by simp) (fun hg7_29 => ?_)
    refine DW.take (i := 30) rfl (by kernel_rfl) (by kernel_rfl) (by kernel_rfl) rfl (wantE rfl rfl hg7_29) (fun u hu => x_move ) ((hE7d.trans hE8).trans hE9) ?_
    refine DW.take (i := 31) rfl (by kernel_rfl) (by kernel_rfl) (by kernel_rfl) rfl (wantE rfl rfl hg7_29) (fun u hu => x_move ) ((hE7d.trans hE8).trans hE9) ?_
    refine DW.take (i := 32) rfl (by kernel_rfl) (by kernel_rfl) (by kernel_rfl) rfl (wantE rfl rfl hg7_29) (fun u hu => x_eql rfl rfl) ((hE7d.trans hE8).trans hE9) ?_
    refine DW.take (i := 33) rfl (by kernel_rfl) (by kernel_rfl) (by kernel_rfl) rfl rfl (fun u hu => x_pickT rfl hg7_29) ((hE7d.trans hE8).trans hE9) ?_
    refine DW.take (i := 34) rfl (by kernel_rfl) (by kernel_rfl) (by kernel_rfl) rfl rfl (fun u hu => x_move ) ((hE7d.trans hE8).trans hE9) ?_
    refine DW.known (t := 92) (c := true) rfl (by simp) (fun hg7_34 => ?_)
    refine DW.take (i := 35) rfl (by kernel_rfl) (by kernel_rfl) (by kernel_rfl) rfl (wantE rfl rfl hg7_34) (fun u hu => x_move ) ((hE7d.trans hE8).trans hE9) ?_
    refine DW.take (i := 36) rfl (by kernel_rfl) (by kernel_rfl) (by kernel_rfl) rfl (wantE rfl rfl hg7_34) (fun u hu => x_move ) ((hE7d.trans hE8).trans hE9) ?_
    refine DW.take (i := 37) rfl (by kernel_rfl) (by kernel_rfl) (by kernel_rfl) rfl (wantE rfl rfl hg7_34) (fun u hu => x_eql rfl rfl) ((hE7d.trans hE8).trans hE9) ?_
    refine DW.take (i := 38) rfl (by kernel_rfl) (by kernel_rfl) (by kernel_rfl) rfl rfl (fun u hu => x_pickT rfl hg7_34) ((hE7d.trans hE8).trans hE9) ?_
    refine DW.take (i := 39) rfl (by kernel_rfl) (by kernel_rfl) (by kernel_rfl) rfl rfl (fun u hu => x_move ) ((hE7d.trans hE8).trans hE9) ?_
    refine DW.known (t := 97) (c := true) rfl (by simp) (fun hg7_39 => ?_)
    refine DW.one (i := 40) (by kernel_rfl) rfl (wantE rfl rfl hg7_39) ?_
    refine r_call rfl Try.call31 rfl (awake4_c _) ?_
    rintro _ wa ⟨rfl, hEa⟩
    refine ⟨_, rfl, ?_⟩
    refine LW.nil (thenE_norm ⟨(((hE7d.trans hE8).trans hE9).trans hEa), ?_⟩)
    refine DW.take (i := 41) rfl (by kernel_rfl) (by kernel_rfl) (by kernel_rfl) rfl rfl (fun u hu => x_pickT rfl hg7_39) (((hE7d.trans hE8).trans hE9).trans hEa) ?_
    refine DW.take (i := 42) rfl (by kernel_rfl) (by kernel_rfl) (by kernel_rfl) rfl rfl (fun u hu => x_assign ) (((hE7d.trans hE8).trans hE9).trans hEa) ?_
    refine DW.done (by kernel_rfl) ?_
    refine thenE_norm ?_
    refine cut (K := K9) [8] (fun σ => ?_)
    simp only [setL, keepE, upd_get, ev, Nat.reduceEqDiff, ↓reduceIte]
    refine h9 _ _ ?_; clear h9; try clear K9
    refine CW.ret (ret1 Try.results9 (by simp only [upd_get, ev, Nat.reduceEqDiff, ↓reduceIte]; rfl) ?_)
    exact ⟨rfl, e8.trans (((hE7d.trans hE8).trans hE9).trans hEa)⟩
end Go.Proofs.Ytgcmafgcigipdaa
