/-
  The walks of layer 4's laws: names, commands and requests by numbers.
-/
import Derived.Test.YtgcmafgcigipdaaVMNamed
import Derived.Test.YtgcmafgcigipdaaVCell
import Derived.Test.YtgcmafgcigipdaaVPlA
namespace Go.Proofs.Ytgcmafgcigipdaa
set_option linter.unusedSimpArgs false
set_option linter.unusedVariables false
set_option maxRecDepth 20000
open Go.V Go.RowKit Go.ChangeShapes Go.WideShapes

theorem Named_c (m : Int) (w : World) (hm : 0 ≤ m) (hm2 : m < 256) :
    Calls Try.prog 40 #[.int .u8 m] w fun e w' => e = .returned (.string (nameOf m)) ∧ Ext0 w w' := by
  refine calls_of_CW Try.func40 rfl Try.ntmps40 (Nat.le_of_ble_eq_true rfl) ?_
  simp only [argE, argFrom, Nat.reduceAdd]
  refine CW.seq (fun K1 h1 => ?_)
  refine CW.region ?_
  refine r_assign rfl ?_
  refine LW.nil ?_
  refine thenE_norm (h1 _ _ ?_); clear h1; try clear K1
  refine CW.seq (fun K2 h2 => ?_)
  refine CW.region ?_
  refine r_buildSlice rfl Try.underlying74 Try.sizeOf9 Try.zeroValue9 rfl rfl rfl rfl ?_
  intro b1_0 w1_0 hb1_0 hs1_0 hE1_0 hB1_0
  have hB : Blk w1_0 b1_0 9 (names6.map fun l => Value.string ⟨l.toArray⟩) := hB1_0
  have hm6 := six m hm
  have hcell : (names6.map fun l => Value.string ⟨l.toArray⟩)[(m % 6).toNat]? = some (.string (nameOf m)) := by
    unfold nameOf
    rcases hm6 with h | h | h | h | h | h <;> rw [h] <;> rfl
  refine r_move rfl ?_
  refine r_convI rfl Try.underlying5 Try.underlying3 rfl (wr_i64 (by omega) (by omega)) ?_
  refine r_rem rfl rfl rfl (by omega) (by omega) (wr_i64 (by omega) (by omega)) ?_
  refine r_indexAddr rfl Try.underlying74 Try.sizeOf9 rfl rfl (by omega) (by omega) ?_
  refine r_load rfl Try.isAgg9 rfl (hB.cell (o := 0 + (m % 6).toNat * 1) (by rw [Nat.zero_add, Nat.mul_one]; exact hcell)) ?_
  refine r_assign rfl ?_
  refine LW.nil ?_
  refine thenE_norm ?_
  refine cut (K := K2) [2] (fun σ => ?_)
  simp only [setL, keepE, upd_get, ev, Nat.reduceEqDiff, ↓reduceIte]
  refine h2 _ _ ?_; clear h2; try clear K2
  refine CW.ret (ret1 Try.results40 (by simp only [upd_get, ev, Nat.reduceEqDiff, ↓reduceIte]; rfl) ?_)
  exact ⟨rfl, hE1_0⟩

theorem Cmd_c (k s m : Int) (w : World) (hk : 0 ≤ k) (hk2 : k < 256) (hs : 0 ≤ s) (hs2 : s < 256) (hm : 0 ≤ m) (hm2 : m < 256) :
    Calls Try.prog 57 #[.int .u8 k, .int .u8 s, .int .u8 m] w fun e w' => e = .returned (cmdV (kindN k) (sessN k s) (nameN k m)) ∧ Ext0 w w' := by
  refine calls_of_CW Try.func57 rfl Try.ntmps57 (Nat.le_of_ble_eq_true rfl) ?_
  simp only [argE, argFrom, Nat.reduceAdd]
  refine CW.seq (fun K1 h1 => ?_)
  refine CW.region ?_
  refine r_alloc rfl Try.zeroValue42 rfl ?_
  intro b0_0 w0_0 hb0_0 hs0_0 hE0_0 hB0_0
  have k0 : Blk w0_0 b0_0 42 (cmdL 0 0 (ByteArray.mk #[])) := hB0_0
  refine LW.nil ?_
  refine thenE_norm (h1 _ _ ?_); clear h1; try clear K1
  refine CW.seq (fun K2 h2 => ?_)
  refine CW.region ?_
  refine r_move rfl ?_
  refine r_convI rfl Try.underlying5 Try.underlying3 rfl (wr_i64 (by omega) (by omega)) ?_
  refine r_rem rfl rfl rfl (by omega) (by omega) (wr_i64 (by omega) (by omega)) ?_
  refine r_add rfl rfl rfl (wr_i64 (by omega) (by omega)) ?_
  refine r_move rfl ?_
  refine r_convI rfl Try.underlying5 Try.underlying3 rfl (wr_i64 (by omega) (by omega)) ?_
  refine r_rem rfl rfl rfl (by omega) (by omega) (wr_i64 (by omega) (by omega)) ?_
  refine r_add rfl rfl rfl (wr_i64 (by omega) (by omega)) ?_
  refine r_build rfl Try.underlying42 Try.zeroValue42 rfl (pl := [(0, 1), (1, 1), (2, 1)]) (by intro w; simp [go_sem]) rfl ?_
  refine r_alloc rfl Try.zeroValue42 rfl ?_
  intro b1_9 w1_9 hb1_9 hs1_9 hE1_9 hB1_9
  have k1 : Blk w1_9 b1_9 42 (cmdL 0 0 (ByteArray.mk #[])) := hB1_9
  have k0 := k0.up0 hE1_9
  refine r_storeA Try.sizeOf42 rfl (by simp only [upd_get, ev, Nat.reduceEqDiff, ↓reduceIte] <;> rfl) rfl rfl rfl k1 (by decide) ?_
  intro w1_10 hs1_10 hE1_10 hB1_10
  have k1 : Blk w1_10 b1_9 42 (cmdL (kindN k) (1 + s % 7) (ByteArray.mk #[])) := hB1_10
  have k0 := k0.up hE1_10 (by omega)
  have ez : Ext0 w w1_10 := (hE0_0.trans hE1_9).transN hE1_10 (fun x hx => by omega)
  refine LW.nil ?_
  refine thenE_norm ?_
  refine cut (K := K2) [2, 6, 7] (fun σ => ?_)
  simp only [setL, keepE, upd_get, ev, Nat.reduceEqDiff, ↓reduceIte]
  refine h2 _ _ ?_; clear h2; try clear K2
  refine CW.seq (fun K3 h3 => ?_)
  refine CW.seq (fun K4 h4 => ?_)
  refine CW.region ?_
  refine r_fieldAddr rfl Try.underlying42 rfl Try.sizeOf3 (by decide) rfl ?_
  refine r_load rfl Try.isAgg3 rfl (k1.cell (o := 0) rfl) ?_
  refine LW.nil ?_
  refine thenE_norm (h4 _ _ ?_); clear h4; try clear K4
  refine CW.block ?_
  refine CW.seq (fun K5 h5 => ?_)
  refine CW.region ?_
  refine r_eql rfl rfl rfl ?_
  refine r_assign rfl ?_
  refine LW.nil ?_
  refine thenE_norm (h5 _ _ ?_); clear h5; try clear K5
  refine CW.cond rfl (fun hc1 => ?_) (fun hc1 => ?_)
  · try simp only [decide_eq_true_eq, decide_eq_false_iff_not, Bool.and_eq_true, Bool.or_eq_true, Bool.and_eq_false_iff, Bool.or_eq_false_iff, Bool.not_eq_true', Bool.not_eq_false', beq_iff_eq, bne_iff_ne] at hc1
    refine CW.region ?_
    refine r_fieldAddr rfl Try.underlying42 rfl Try.sizeOf3 (by decide) rfl ?_
    refine r_store Try.sizeOf3 rfl (by simp only [upd_get, ev, Nat.reduceEqDiff, ↓reduceIte] <;> rfl) rfl k1 (by show 1 < 3; decide) ?_
    intro w4_1 hs4_1 hE4_1 hB4_1
    have kz : Blk w4_1 b1_9 42 (cmdL (kindN k) (sessN k s) (nameN k m)) := by rw [sessN, if_pos hc1, nameN, if_neg (by omega)]; exact hB4_1
    have k0 := k0.up hE4_1 (by omega)
    have ez : Ext0 w w4_1 := ez.transN hE4_1 (fun x hx => by omega)
    try simp only [Nat.zero_add, Nat.mul_one] at hB4_1
    refine LW.nil ?_
    refine blockE_norm ?_
    refine thenE_norm (h3 _ _ ?_); clear h3; try clear K3
    refine CW.seq (fun K6 h6 => ?_)
    refine CW.region ?_
    refine r_loadA rfl Try.isAgg42 Try.sizeOf42 rfl (kz.cellsAll) rfl ?_
    refine r_storeA Try.sizeOf42 rfl (by simp only [upd_get, ev, Nat.reduceEqDiff, ↓reduceIte] <;> rfl) rfl rfl rfl k0 (by decide) ?_
    intro w9_1 hs9_1 hE9_1 hB9_1
    refine LW.nil ?_
    refine thenE_norm ?_
    refine cut (K := K6) [6] (fun σ => ?_)
    simp only [setL, keepE, upd_get, ev, Nat.reduceEqDiff, ↓reduceIte]
    refine h6 _ _ ?_; clear h6; try clear K6
    refine CW.ret (retC1 Try.results57 (by simp only [upd_get, ev, Nat.reduceEqDiff, ↓reduceIte] <;> rfl) Try.isAgg42 Try.sizeOf42 (hB9_1.cellsAll) rfl ?_)
    exact ⟨rfl, ez.transN hE9_1 (fun x hx => by omega)⟩
  · try simp only [decide_eq_true_eq, decide_eq_false_iff_not, Bool.and_eq_true, Bool.or_eq_true, Bool.and_eq_false_iff, Bool.or_eq_false_iff, Bool.not_eq_true', Bool.not_eq_false', beq_iff_eq, bne_iff_ne] at hc1
    refine CW.seq (fun K7 h7 => ?_)
    refine CW.seq (fun K8 h8 => ?_)
    refine CW.region ?_
    refine r_eql rfl rfl rfl ?_
    refine r_assign rfl ?_
    refine LW.nil ?_
    refine thenE_norm (h8 _ _ ?_); clear h8; try clear K8
    refine CW.cond rfl (fun hc2 => ?_) (fun hc2 => ?_)
    · try simp only [decide_eq_true_eq, decide_eq_false_iff_not, Bool.and_eq_true, Bool.or_eq_true, Bool.and_eq_false_iff, Bool.or_eq_false_iff, Bool.not_eq_true', Bool.not_eq_false', beq_iff_eq, bne_iff_ne] at hc2
      refine CW.skip ?_
      refine thenE_norm (h7 _ _ ?_); clear h7; try clear K7
      refine CW.cond rfl (fun hc4 => ?_) (fun hc4 => ?_)
      · try simp only [decide_eq_true_eq, decide_eq_false_iff_not, Bool.and_eq_true, Bool.or_eq_true, Bool.and_eq_false_iff, Bool.or_eq_false_iff, Bool.not_eq_true', Bool.not_eq_false', beq_iff_eq, bne_iff_ne] at hc4
        refine CW.region ?_
        refine r_move rfl ?_
        refine r_call rfl Try.call40 rfl (Named_c m _ hm hm2) ?_
        rintro _ w8 ⟨rfl, hE8⟩
        refine ⟨_, rfl, ?_⟩
        have k1 := k1.up0 hE8
        have k0 := k0.up0 hE8
        have ez := ez.trans hE8
        refine r_fieldAddr rfl Try.underlying42 rfl Try.sizeOf9 (by decide) rfl ?_
        refine r_store Try.sizeOf9 rfl (by simp only [upd_get, ev, Nat.reduceEqDiff, ↓reduceIte] <;> rfl) rfl k1 (by show 2 < 3; decide) ?_
        intro w8_3 hs8_3 hE8_3 hB8_3
        have kz : Blk w8_3 b1_9 42 (cmdL (kindN k) (sessN k s) (nameN k m)) := by rw [sessN, if_neg (by omega), nameN, if_pos (by omega)]; exact hB8_3
        have k0 := k0.up hE8_3 (by omega)
        have ez : Ext0 w w8_3 := ez.transN hE8_3 (fun x hx => by omega)
        try simp only [Nat.zero_add, Nat.mul_one] at hB8_3
        refine LW.nil ?_
        refine blockE_norm ?_
        refine thenE_norm (h3 _ _ ?_); clear h3; try clear K3
        refine CW.seq (fun K9 h9 => ?_)
        refine CW.region ?_
        refine r_loadA rfl Try.isAgg42 Try.sizeOf42 rfl (kz.cellsAll) rfl ?_
        refine r_storeA Try.sizeOf42 rfl (by simp only [upd_get, ev, Nat.reduceEqDiff, ↓reduceIte] <;> rfl) rfl rfl rfl k0 (by decide) ?_
        intro w9_1 hs9_1 hE9_1 hB9_1
        refine LW.nil ?_
        refine thenE_norm ?_
        refine cut (K := K9) [6] (fun σ => ?_)
        simp only [setL, keepE, upd_get, ev, Nat.reduceEqDiff, ↓reduceIte]
        refine h9 _ _ ?_; clear h9; try clear K9
        refine CW.ret (retC1 Try.results57 (by simp only [upd_get, ev, Nat.reduceEqDiff, ↓reduceIte] <;> rfl) Try.isAgg42 Try.sizeOf42 (hB9_1.cellsAll) rfl ?_)
        exact ⟨rfl, ez.transN hE9_1 (fun x hx => by omega)⟩
      · try simp only [decide_eq_true_eq, decide_eq_false_iff_not, Bool.and_eq_true, Bool.or_eq_true, Bool.and_eq_false_iff, Bool.or_eq_false_iff, Bool.not_eq_true', Bool.not_eq_false', beq_iff_eq, bne_iff_ne] at hc4
        have kz : Blk w1_10 b1_9 42 (cmdL (kindN k) (sessN k s) (nameN k m)) := by rw [sessN, if_neg (by omega), nameN, if_neg (by omega)]; exact k1
        refine CW.skip ?_
        refine blockE_norm ?_
        refine thenE_norm (h3 _ _ ?_); clear h3; try clear K3
        refine CW.seq (fun K10 h10 => ?_)
        refine CW.region ?_
        refine r_loadA rfl Try.isAgg42 Try.sizeOf42 rfl (kz.cellsAll) rfl ?_
        refine r_storeA Try.sizeOf42 rfl (by simp only [upd_get, ev, Nat.reduceEqDiff, ↓reduceIte] <;> rfl) rfl rfl rfl k0 (by decide) ?_
        intro w9_1 hs9_1 hE9_1 hB9_1
        refine LW.nil ?_
        refine thenE_norm ?_
        refine cut (K := K10) [6] (fun σ => ?_)
        simp only [setL, keepE, upd_get, ev, Nat.reduceEqDiff, ↓reduceIte]
        refine h10 _ _ ?_; clear h10; try clear K10
        refine CW.ret (retC1 Try.results57 (by simp only [upd_get, ev, Nat.reduceEqDiff, ↓reduceIte] <;> rfl) Try.isAgg42 Try.sizeOf42 (hB9_1.cellsAll) rfl ?_)
        exact ⟨rfl, ez.transN hE9_1 (fun x hx => by omega)⟩
    · try simp only [decide_eq_true_eq, decide_eq_false_iff_not, Bool.and_eq_true, Bool.or_eq_true, Bool.and_eq_false_iff, Bool.or_eq_false_iff, Bool.not_eq_true', Bool.not_eq_false', beq_iff_eq, bne_iff_ne] at hc2
      refine CW.seq (fun K11 h11 => ?_)
      refine CW.region ?_
      refine r_eql rfl rfl rfl ?_
      refine r_assign rfl ?_
      refine LW.nil ?_
      refine thenE_norm ?_
      refine cut (K := K11) [2, 6, 7, 18, 22] (fun σ => ?_)
      simp only [setL, keepE, upd_get, ev, Nat.reduceEqDiff, ↓reduceIte]
      refine h11 _ _ ?_; clear h11; try clear K11
      refine CW.cond rfl (fun hc3 => ?_) (fun hc3 => ?_)
      · try simp only [decide_eq_true_eq, decide_eq_false_iff_not, Bool.and_eq_true, Bool.or_eq_true, Bool.and_eq_false_iff, Bool.or_eq_false_iff, Bool.not_eq_true', Bool.not_eq_false', beq_iff_eq, bne_iff_ne] at hc3
        refine CW.skip ?_
        refine thenE_norm (h7 _ _ ?_); clear h7; try clear K7
        refine CW.cond rfl (fun hc4 => ?_) (fun hc4 => ?_)
        · try simp only [decide_eq_true_eq, decide_eq_false_iff_not, Bool.and_eq_true, Bool.or_eq_true, Bool.and_eq_false_iff, Bool.or_eq_false_iff, Bool.not_eq_true', Bool.not_eq_false', beq_iff_eq, bne_iff_ne] at hc4
          refine CW.region ?_
          refine r_move rfl ?_
          refine r_call rfl Try.call40 rfl (Named_c m _ hm hm2) ?_
          rintro _ w8 ⟨rfl, hE8⟩
          refine ⟨_, rfl, ?_⟩
          have k1 := k1.up0 hE8
          have k0 := k0.up0 hE8
          have ez := ez.trans hE8
          refine r_fieldAddr rfl Try.underlying42 rfl Try.sizeOf9 (by decide) rfl ?_
          refine r_store Try.sizeOf9 rfl (by simp only [upd_get, ev, Nat.reduceEqDiff, ↓reduceIte] <;> rfl) rfl k1 (by show 2 < 3; decide) ?_
          intro w8_3 hs8_3 hE8_3 hB8_3
          have kz : Blk w8_3 b1_9 42 (cmdL (kindN k) (sessN k s) (nameN k m)) := by rw [sessN, if_neg (by omega), nameN, if_pos (by omega)]; exact hB8_3
          have k0 := k0.up hE8_3 (by omega)
          have ez : Ext0 w w8_3 := ez.transN hE8_3 (fun x hx => by omega)
          try simp only [Nat.zero_add, Nat.mul_one] at hB8_3
          refine LW.nil ?_
          refine blockE_norm ?_
          refine thenE_norm (h3 _ _ ?_); clear h3; try clear K3
          refine CW.seq (fun K12 h12 => ?_)
          refine CW.region ?_
          refine r_loadA rfl Try.isAgg42 Try.sizeOf42 rfl (kz.cellsAll) rfl ?_
          refine r_storeA Try.sizeOf42 rfl (by simp only [upd_get, ev, Nat.reduceEqDiff, ↓reduceIte] <;> rfl) rfl rfl rfl k0 (by decide) ?_
          intro w9_1 hs9_1 hE9_1 hB9_1
          refine LW.nil ?_
          refine thenE_norm (h12 _ _ ?_); clear h12; try clear K12
          refine CW.ret (retC1 Try.results57 (by simp only [upd_get, ev, Nat.reduceEqDiff, ↓reduceIte] <;> rfl) Try.isAgg42 Try.sizeOf42 (hB9_1.cellsAll) rfl ?_)
          exact ⟨rfl, ez.transN hE9_1 (fun x hx => by omega)⟩
        · try simp only [decide_eq_true_eq, decide_eq_false_iff_not, Bool.and_eq_true, Bool.or_eq_true, Bool.and_eq_false_iff, Bool.or_eq_false_iff, Bool.not_eq_true', Bool.not_eq_false', beq_iff_eq, bne_iff_ne] at hc4
          have kz : Blk w1_10 b1_9 42 (cmdL (kindN k) (sessN k s) (nameN k m)) := by rw [sessN, if_neg (by omega), nameN, if_neg (by omega)]; exact k1
          refine CW.skip ?_
          refine blockE_norm ?_
          refine thenE_norm (h3 _ _ ?_); clear h3; try clear K3
          refine CW.seq (fun K13 h13 => ?_)
          refine CW.region ?_
          refine r_loadA rfl Try.isAgg42 Try.sizeOf42 rfl (kz.cellsAll) rfl ?_
          refine r_storeA Try.sizeOf42 rfl (by simp only [upd_get, ev, Nat.reduceEqDiff, ↓reduceIte] <;> rfl) rfl rfl rfl k0 (by decide) ?_
          intro w9_1 hs9_1 hE9_1 hB9_1
          refine LW.nil ?_
          refine thenE_norm (h13 _ _ ?_); clear h13; try clear K13
          refine CW.ret (retC1 Try.results57 (by simp only [upd_get, ev, Nat.reduceEqDiff, ↓reduceIte] <;> rfl) Try.isAgg42 Try.sizeOf42 (hB9_1.cellsAll) rfl ?_)
          exact ⟨rfl, ez.transN hE9_1 (fun x hx => by omega)⟩
      · try simp only [decide_eq_true_eq, decide_eq_false_iff_not, Bool.and_eq_true, Bool.or_eq_true, Bool.and_eq_false_iff, Bool.or_eq_false_iff, Bool.not_eq_true', Bool.not_eq_false', beq_iff_eq, bne_iff_ne] at hc3
        refine CW.region ?_
        refine r_eql rfl rfl rfl ?_
        refine r_assign rfl ?_
        refine LW.nil ?_
        refine thenE_norm (h7 _ _ ?_); clear h7; try clear K7
        refine CW.cond rfl (fun hc4 => ?_) (fun hc4 => ?_)
        · try simp only [decide_eq_true_eq, decide_eq_false_iff_not, Bool.and_eq_true, Bool.or_eq_true, Bool.and_eq_false_iff, Bool.or_eq_false_iff, Bool.not_eq_true', Bool.not_eq_false', beq_iff_eq, bne_iff_ne] at hc4
          refine CW.region ?_
          refine r_move rfl ?_
          refine r_call rfl Try.call40 rfl (Named_c m _ hm hm2) ?_
          rintro _ w8 ⟨rfl, hE8⟩
          refine ⟨_, rfl, ?_⟩
          have k1 := k1.up0 hE8
          have k0 := k0.up0 hE8
          have ez := ez.trans hE8
          refine r_fieldAddr rfl Try.underlying42 rfl Try.sizeOf9 (by decide) rfl ?_
          refine r_store Try.sizeOf9 rfl (by simp only [upd_get, ev, Nat.reduceEqDiff, ↓reduceIte] <;> rfl) rfl k1 (by show 2 < 3; decide) ?_
          intro w8_3 hs8_3 hE8_3 hB8_3
          have kz : Blk w8_3 b1_9 42 (cmdL (kindN k) (sessN k s) (nameN k m)) := by rw [sessN, if_neg (by omega), nameN, if_pos (by omega)]; exact hB8_3
          have k0 := k0.up hE8_3 (by omega)
          have ez : Ext0 w w8_3 := ez.transN hE8_3 (fun x hx => by omega)
          try simp only [Nat.zero_add, Nat.mul_one] at hB8_3
          refine LW.nil ?_
          refine blockE_norm ?_
          refine thenE_norm (h3 _ _ ?_); clear h3; try clear K3
          refine CW.seq (fun K14 h14 => ?_)
          refine CW.region ?_
          refine r_loadA rfl Try.isAgg42 Try.sizeOf42 rfl (kz.cellsAll) rfl ?_
          refine r_storeA Try.sizeOf42 rfl (by simp only [upd_get, ev, Nat.reduceEqDiff, ↓reduceIte] <;> rfl) rfl rfl rfl k0 (by decide) ?_
          intro w9_1 hs9_1 hE9_1 hB9_1
          refine LW.nil ?_
          refine thenE_norm ?_
          refine cut (K := K14) [6] (fun σ => ?_)
          simp only [setL, keepE, upd_get, ev, Nat.reduceEqDiff, ↓reduceIte]
          refine h14 _ _ ?_; clear h14; try clear K14
          refine CW.ret (retC1 Try.results57 (by simp only [upd_get, ev, Nat.reduceEqDiff, ↓reduceIte] <;> rfl) Try.isAgg42 Try.sizeOf42 (hB9_1.cellsAll) rfl ?_)
          exact ⟨rfl, ez.transN hE9_1 (fun x hx => by omega)⟩
        · try simp only [decide_eq_true_eq, decide_eq_false_iff_not, Bool.and_eq_true, Bool.or_eq_true, Bool.and_eq_false_iff, Bool.or_eq_false_iff, Bool.not_eq_true', Bool.not_eq_false', beq_iff_eq, bne_iff_ne] at hc4
          have kz : Blk w1_10 b1_9 42 (cmdL (kindN k) (sessN k s) (nameN k m)) := by rw [sessN, if_neg (by omega), nameN, if_neg (by omega)]; exact k1
          refine CW.skip ?_
          refine blockE_norm ?_
          refine thenE_norm (h3 _ _ ?_); clear h3; try clear K3
          refine CW.seq (fun K15 h15 => ?_)
          refine CW.region ?_
          refine r_loadA rfl Try.isAgg42 Try.sizeOf42 rfl (kz.cellsAll) rfl ?_
          refine r_storeA Try.sizeOf42 rfl (by simp only [upd_get, ev, Nat.reduceEqDiff, ↓reduceIte] <;> rfl) rfl rfl rfl k0 (by decide) ?_
          intro w9_1 hs9_1 hE9_1 hB9_1
          refine LW.nil ?_
          refine thenE_norm (h15 _ _ ?_); clear h15; try clear K15
          refine CW.ret (retC1 Try.results57 (by simp only [upd_get, ev, Nat.reduceEqDiff, ↓reduceIte] <;> rfl) Try.isAgg42 Try.sizeOf42 (hB9_1.cellsAll) rfl ?_)
          exact ⟨rfl, ez.transN hE9_1 (fun x hx => by omega)⟩

theorem Req_c (c q k s m : Int) (w : World) (hc : 0 ≤ c) (hc2 : c < 256) (hq : 0 ≤ q) (hq2 : q < 256) (hk : 0 ≤ k) (hk2 : k < 256) (hs : 0 ≤ s) (hs2 : s < 256) (hm : 0 ≤ m) (hm2 : m < 256) :
    Calls Try.prog 47 #[.int .u8 c, .int .u8 q, .int .u8 k, .int .u8 s, .int .u8 m] w fun e w' => e = .returned (reqV (c % 8) (1 + q) (kindN k) (sessN k s) (nameN k m)) ∧ Ext0 w w' := by
  refine calls_of_CW Try.func47 rfl Try.ntmps47 (Nat.le_of_ble_eq_true rfl) ?_
  simp only [argE, argFrom, Nat.reduceAdd]
  refine CW.seq (fun K1 h1 => ?_)
  refine CW.region ?_
  refine r_alloc rfl Try.zeroValue53 rfl ?_
  intro b0_0 w0_0 hb0_0 hs0_0 hE0_0 hB0_0
  have k0 : Blk w0_0 b0_0 53 (reqL 0 0 0 0 (ByteArray.mk #[])) := hB0_0
  refine LW.nil ?_
  refine thenE_norm (h1 _ _ ?_); clear h1; try clear K1
  refine CW.seq (fun K2 h2 => ?_)
  refine CW.region ?_
  refine r_move rfl ?_
  refine r_convI rfl Try.underlying5 Try.underlying3 rfl (wr_i64 (by omega) (by omega)) ?_
  refine r_rem rfl rfl rfl (by omega) (by omega) (wr_i64 (by omega) (by omega)) ?_
  refine r_move rfl ?_
  refine r_convI rfl Try.underlying5 Try.underlying3 rfl (wr_i64 (by omega) (by omega)) ?_
  refine r_add rfl rfl rfl (wr_i64 (by omega) (by omega)) ?_
  refine r_move rfl ?_
  refine r_move rfl ?_
  refine r_move rfl ?_
  refine r_call rfl Try.call57 rfl (Cmd_c k s m _ hk hk2 hs hs2 hm hm2) ?_
  rintro _ w1 ⟨rfl, hE1⟩
  refine ⟨_, rfl, ?_⟩
  have k0 := k0.up0 hE1
  have e1 := hE0_0.trans hE1
  refine r_build rfl Try.underlying53 Try.zeroValue53 rfl (pl := [(0, 1), (1, 1), (2, 3)]) (by intro w; simp [go_sem]) rfl ?_
  refine r_storeA Try.sizeOf53 rfl (by simp only [upd_get, ev, Nat.reduceEqDiff, ↓reduceIte] <;> rfl) rfl rfl rfl k0 (by decide) ?_
  intro w1_11 hs1_11 hE1_11 hB1_11
  refine LW.nil ?_
  refine thenE_norm ?_
  refine cut (K := K2) [10] (fun σ => ?_)
  simp only [setL, keepE, upd_get, ev, Nat.reduceEqDiff, ↓reduceIte]
  refine h2 _ _ ?_; clear h2; try clear K2
  refine CW.ret (retC1 Try.results47 (by simp only [upd_get, ev, Nat.reduceEqDiff, ↓reduceIte] <;> rfl) Try.isAgg53 Try.sizeOf53 (hB1_11.cellsAll) rfl ?_)
  exact ⟨rfl, e1.transN hE1_11 (fun x hx => by omega)⟩

end Go.Proofs.Ytgcmafgcigipdaa
