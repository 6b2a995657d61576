/-
  The walks of layer 19's functions, the eighth part: requests by numbers; how many there is room for.
-/
import Derived.Test.YtlfbofnfhhddbaaVPlG
import Derived.Test.YtlfbofnfhhddbaaVArr
import Derived.Test.YtlfbofnfhhddbaaVMNamed
import Derived.Test.YtlfbofnfhhddbaaVCell
namespace Go.Proofs.Ytlfbofnfhhddbaa
set_option linter.unusedSimpArgs false
set_option linter.unusedVariables false
set_option maxRecDepth 20000
open Go.V Go.RowKit Go.ChangeShapes Go.WideShapes

structure ActP where
  doing : Int
  now : Int
  n : Int
  client : UInt8
  seq : UInt8
deriving DecidableEq
def ActP.L (a : ActP) : List Value := [.int .i64 a.doing, .int .i64 a.now, .int .i64 a.n, u8v a.client, u8v a.seq]
instance : Row ActP := ⟨5, ActP.L, ⟨0, 0, 0, 0, 0⟩, fun _ => rfl, rfl⟩
def ActP.Good (w : World) (a : ActP) : Prop := I64 a.doing ∧ I64 a.now ∧ I64 a.n ∧ True ∧ True
theorem ActP.opens : Opens Try.prog (α := ActP) 38 ActP.Good := fun H enc w base spare held fuel cs x hl h => by
  obtain ⟨u0, u1, u2, u3, u4, rfl⟩ := list5 hl
  obtain ⟨m0, hf0⟩ := open_fields Try.underlying38 h
  obtain ⟨y0, t0⟩ := hf0 0 _ 1 rfl (by kernel_rfl)
  obtain ⟨a0, e0, -, w0⟩ := DataW.trod_int Try.underlying3 t0
  obtain rfl : u0 = _ := by simpa using e0
  obtain ⟨y1, t1⟩ := hf0 1 _ 1 rfl (by kernel_rfl)
  obtain ⟨a1, e1, -, w1⟩ := DataW.trod_int Try.underlying3 t1
  obtain rfl : u1 = _ := by simpa using e1
  obtain ⟨y2, t2⟩ := hf0 2 _ 1 rfl (by kernel_rfl)
  obtain ⟨a2, e2, -, w2⟩ := DataW.trod_int Try.underlying3 t2
  obtain rfl : u2 = _ := by simpa using e2
  obtain ⟨y3, t3⟩ := hf0 3 _ 1 rfl (by kernel_rfl)
  obtain ⟨a3, e3, -, w3⟩ := DataW.trod_int Try.underlying5 t3
  obtain ⟨b3, hb3⟩ := u8_wf w3
  rw [hb3] at e3
  obtain rfl : u3 = _ := by simpa using e3
  obtain ⟨y4, t4⟩ := hf0 4 _ 1 rfl (by kernel_rfl)
  obtain ⟨a4, e4, -, w4⟩ := DataW.trod_int Try.underlying5 t4
  obtain ⟨b4, hb4⟩ := u8_wf w4
  rw [hb4] at e4
  obtain rfl : u4 = _ := by simpa using e4
  exact ⟨⟨a0, a1, a2, b3, b4⟩, rfl, (by first | rfl | (simp only [Row.cells, ActP.L]; repeat (first | rfl | refine Bool.and_eq_true_iff.2 ⟨(by first | rfl | assumption), ?_⟩))), ⟨i64_wf w0, i64_wf w1, i64_wf w2, trivial, trivial⟩⟩
theorem Named_c (m : Int) (w : World) (hm : 0 ≤ m) (hm2 : m < 256) :
    Calls Try.prog 41 #[.int .u8 m] w fun e w' => e = .returned (.string (nameOf m)) ∧ Ext0 w w' := by
  refine calls_of_CW Try.func41 rfl Try.ntmps41 (Nat.le_of_ble_eq_true rfl) ?_
  simp only [argE, argFrom, Nat.reduceAdd]
  refine CW.seq (fun K1 h1 => ?_)
  refine CW.region ?_
  refine r_assign rfl ?_
  refine LW.nil ?_
  refine thenE_norm (h1 _ _ ?_); clear h1; try clear K1
  refine CW.seq (fun K2 h2 => ?_)
  refine CW.region ?_
  refine r_buildSlice rfl Try.underlying126 Try.sizeOf9 Try.zeroValue9 rfl rfl rfl rfl ?_
  intro b1_0 w1_0 hb1_0 hs1_0 hE1_0 hB1_0
  have hB : Blk w1_0 b1_0 9 (names6.map fun l => Value.string ⟨l.toArray⟩) := hB1_0
  have hm6 := six m hm
  have hcell : (names6.map fun l => Value.string ⟨l.toArray⟩)[(m % 6).toNat]? = some (.string (nameOf m)) := by
    unfold nameOf
    rcases hm6 with h | h | h | h | h | h <;> rw [h] <;> rfl
  refine r_move rfl ?_
  refine r_convI rfl Try.underlying5 Try.underlying3 rfl (wr_i64 (by omega) (by omega)) ?_
  refine r_rem rfl rfl rfl (by omega) (by omega) (wr_i64 (by omega) (by omega)) ?_
  refine r_indexAddr rfl Try.underlying126 Try.sizeOf9 rfl rfl (by omega) (by omega) ?_
  refine r_load rfl Try.isAgg9 rfl (hB.cell (o := 0 + (m % 6).toNat * 1) (by rw [Nat.zero_add, Nat.mul_one]; exact hcell)) ?_
  refine r_assign rfl ?_
  refine LW.nil ?_
  refine thenE_norm ?_
  refine cut (K := K2) [2] (fun σ => ?_)
  simp only [setL, keepE, upd_get, ev, Nat.reduceEqDiff, ↓reduceIte]
  refine h2 _ _ ?_; clear h2; try clear K2
  refine CW.ret (ret1 Try.results41 (by simp only [upd_get, ev, Nat.reduceEqDiff, ↓reduceIte]; rfl) ?_)
  exact ⟨rfl, hE1_0⟩

theorem Cmd_c (k s m : Int) (w : World) (hk : 0 ≤ k) (hk2 : k < 256) (hs : 0 ≤ s) (hs2 : s < 256) (hm : 0 ≤ m) (hm2 : m < 256) :
    Calls Try.prog 75 #[.int .u8 k, .int .u8 s, .int .u8 m] w fun e w' => e = .returned (cmdV (kindN k) (sessN k s) (nameN k m)) ∧ Ext0 w w' := by
  refine calls_of_CW Try.func75 rfl Try.ntmps75 (Nat.le_of_ble_eq_true rfl) ?_
  simp only [argE, argFrom, Nat.reduceAdd]
  refine CW.seq (fun K1 h1 => ?_)
  refine CW.region ?_
  refine r_alloc rfl Try.zeroValue27 rfl ?_
  intro b0_0 w0_0 hb0_0 hs0_0 hE0_0 hB0_0
  have k0 : Blk w0_0 b0_0 27 (cmdL 0 0 (ByteArray.mk #[])) := hB0_0
  refine LW.nil ?_
  refine thenE_norm (h1 _ _ ?_); clear h1; try clear K1
  refine CW.seq (fun K2 h2 => ?_)
  refine CW.region ?_
  refine r_move rfl ?_
  refine r_convI rfl Try.underlying5 Try.underlying3 rfl (wr_i64 (by omega) (by omega)) ?_
  refine r_rem rfl rfl rfl (by omega) (by omega) (wr_i64 (by omega) (by omega)) ?_
  refine r_add rfl rfl rfl (wr_i64 (by omega) (by omega)) ?_
  refine r_move rfl ?_
  refine r_convI rfl Try.underlying5 Try.underlying3 rfl (wr_i64 (by omega) (by omega)) ?_
  refine r_rem rfl rfl rfl (by omega) (by omega) (wr_i64 (by omega) (by omega)) ?_
  refine r_add rfl rfl rfl (wr_i64 (by omega) (by omega)) ?_
  refine r_build rfl Try.underlying27 Try.zeroValue27 rfl (pl := [(0, 1), (1, 1), (2, 1)]) (by intro w; simp [go_sem]) rfl ?_
  refine r_alloc rfl Try.zeroValue27 rfl ?_
  intro b1_9 w1_9 hb1_9 hs1_9 hE1_9 hB1_9
  have k1 : Blk w1_9 b1_9 27 (cmdL 0 0 (ByteArray.mk #[])) := hB1_9
  have k0 := k0.up0 hE1_9
  refine r_storeA Try.sizeOf27 rfl (by simp only [upd_get, ev, Nat.reduceEqDiff, ↓reduceIte] <;> rfl) rfl rfl rfl k1 (by decide) ?_
  intro w1_10 hs1_10 hE1_10 hB1_10
  have k1 : Blk w1_10 b1_9 27 (cmdL (kindN k) (1 + s % 7) (ByteArray.mk #[])) := hB1_10
  have k0 := k0.up hE1_10 (by omega)
  have ez : Ext0 w w1_10 := (hE0_0.trans hE1_9).transN hE1_10 (fun x hx => by omega)
  refine LW.nil ?_
  refine thenE_norm ?_
  refine cut (K := K2) [2, 6, 7] (fun σ => ?_)
  simp only [setL, keepE, upd_get, ev, Nat.reduceEqDiff, ↓reduceIte]
  refine h2 _ _ ?_; clear h2; try clear K2
  refine CW.seq (fun K3 h3 => ?_)
  refine CW.seq (fun K4 h4 => ?_)
  refine CW.region ?_
  refine r_fieldAddr rfl Try.underlying27 rfl Try.sizeOf3 (by decide) rfl ?_
  refine r_load rfl Try.isAgg3 rfl (k1.cell (o := 0) rfl) ?_
  refine LW.nil ?_
  refine thenE_norm (h4 _ _ ?_); clear h4; try clear K4
  refine CW.block ?_
  refine CW.seq (fun K5 h5 => ?_)
  refine CW.region ?_
  refine r_eql rfl rfl rfl ?_
  refine r_assign rfl ?_
  refine LW.nil ?_
  refine thenE_norm (h5 _ _ ?_); clear h5; try clear K5
  refine CW.cond rfl (fun hc1 => ?_) (fun hc1 => ?_)
  · try simp only [decide_eq_true_eq, decide_eq_false_iff_not, Bool.and_eq_true, Bool.or_eq_true, Bool.and_eq_false_iff, Bool.or_eq_false_iff, Bool.not_eq_true', Bool.not_eq_false', beq_iff_eq, bne_iff_ne] at hc1
    refine CW.region ?_
    refine r_fieldAddr rfl Try.underlying27 rfl Try.sizeOf3 (by decide) rfl ?_
    refine r_store Try.sizeOf3 rfl (by simp only [upd_get, ev, Nat.reduceEqDiff, ↓reduceIte] <;> rfl) rfl k1 (by show 1 < 3; decide) ?_
    intro w4_1 hs4_1 hE4_1 hB4_1
    have kz : Blk w4_1 b1_9 27 (cmdL (kindN k) (sessN k s) (nameN k m)) := by rw [sessN, if_pos hc1, nameN, if_neg (by omega)]; exact hB4_1
    have k0 := k0.up hE4_1 (by omega)
    have ez : Ext0 w w4_1 := ez.transN hE4_1 (fun x hx => by omega)
    try simp only [Nat.zero_add, Nat.mul_one] at hB4_1
    refine LW.nil ?_
    refine blockE_norm ?_
    refine thenE_norm (h3 _ _ ?_); clear h3; try clear K3
    refine CW.seq (fun K6 h6 => ?_)
    refine CW.region ?_
    refine r_loadA rfl Try.isAgg27 Try.sizeOf27 rfl (kz.cellsAll) rfl ?_
    refine r_storeA Try.sizeOf27 rfl (by simp only [upd_get, ev, Nat.reduceEqDiff, ↓reduceIte] <;> rfl) rfl rfl rfl k0 (by decide) ?_
    intro w9_1 hs9_1 hE9_1 hB9_1
    refine LW.nil ?_
    refine thenE_norm ?_
    refine cut (K := K6) [6] (fun σ => ?_)
    simp only [setL, keepE, upd_get, ev, Nat.reduceEqDiff, ↓reduceIte]
    refine h6 _ _ ?_; clear h6; try clear K6
    refine CW.ret (retC1 Try.results75 (by simp only [upd_get, ev, Nat.reduceEqDiff, ↓reduceIte] <;> rfl) Try.isAgg27 Try.sizeOf27 (hB9_1.cellsAll) rfl ?_)
    exact ⟨rfl, ez.transN hE9_1 (fun x hx => by omega)⟩
  · try simp only [decide_eq_true_eq, decide_eq_false_iff_not, Bool.and_eq_true, Bool.or_eq_true, Bool.and_eq_false_iff, Bool.or_eq_false_iff, Bool.not_eq_true', Bool.not_eq_false', beq_iff_eq, bne_iff_ne] at hc1
    refine CW.seq (fun K7 h7 => ?_)
    refine CW.seq (fun K8 h8 => ?_)
    refine CW.region ?_
    refine r_eql rfl rfl rfl ?_
    refine r_assign rfl ?_
    refine LW.nil ?_
    refine thenE_norm (h8 _ _ ?_); clear h8; try clear K8
    refine CW.cond rfl (fun hc2 => ?_) (fun hc2 => ?_)
    · try simp only [decide_eq_true_eq, decide_eq_false_iff_not, Bool.and_eq_true, Bool.or_eq_true, Bool.and_eq_false_iff, Bool.or_eq_false_iff, Bool.not_eq_true', Bool.not_eq_false', beq_iff_eq, bne_iff_ne] at hc2
      refine CW.skip ?_
      refine thenE_norm (h7 _ _ ?_); clear h7; try clear K7
      refine CW.cond rfl (fun hc4 => ?_) (fun hc4 => ?_)
      · try simp only [decide_eq_true_eq, decide_eq_false_iff_not, Bool.and_eq_true, Bool.or_eq_true, Bool.and_eq_false_iff, Bool.or_eq_false_iff, Bool.not_eq_true', Bool.not_eq_false', beq_iff_eq, bne_iff_ne] at hc4
        refine CW.region ?_
        refine r_move rfl ?_
        refine r_call rfl Try.call41 rfl (Named_c m _ hm hm2) ?_
        rintro _ w8 ⟨rfl, hE8⟩
        refine ⟨_, rfl, ?_⟩
        have k1 := k1.up0 hE8
        have k0 := k0.up0 hE8
        have ez := ez.trans hE8
        refine r_fieldAddr rfl Try.underlying27 rfl Try.sizeOf9 (by decide) rfl ?_
        refine r_store Try.sizeOf9 rfl (by simp only [upd_get, ev, Nat.reduceEqDiff, ↓reduceIte] <;> rfl) rfl k1 (by show 2 < 3; decide) ?_
        intro w8_3 hs8_3 hE8_3 hB8_3
        have kz : Blk w8_3 b1_9 27 (cmdL (kindN k) (sessN k s) (nameN k m)) := by rw [sessN, if_neg (by omega), nameN, if_pos (by omega)]; exact hB8_3
        have k0 := k0.up hE8_3 (by omega)
        have ez : Ext0 w w8_3 := ez.transN hE8_3 (fun x hx => by omega)
        try simp only [Nat.zero_add, Nat.mul_one] at hB8_3
        refine LW.nil ?_
        refine blockE_norm ?_
        refine thenE_norm (h3 _ _ ?_); clear h3; try clear K3
        refine CW.seq (fun K9 h9 => ?_)
        refine CW.region ?_
        refine r_loadA rfl Try.isAgg27 Try.sizeOf27 rfl (kz.cellsAll) rfl ?_
        refine r_storeA Try.sizeOf27 rfl (by simp only [upd_get, ev, Nat.reduceEqDiff, ↓reduceIte] <;> rfl) rfl rfl rfl k0 (by decide) ?_
        intro w9_1 hs9_1 hE9_1 hB9_1
        refine LW.nil ?_
        refine thenE_norm ?_
        refine cut (K := K9) [6] (fun σ => ?_)
        simp only [setL, keepE, upd_get, ev, Nat.reduceEqDiff, ↓reduceIte]
        refine h9 _ _ ?_; clear h9; try clear K9
        refine CW.ret (retC1 Try.results75 (by simp only [upd_get, ev, Nat.reduceEqDiff, ↓reduceIte] <;> rfl) Try.isAgg27 Try.sizeOf27 (hB9_1.cellsAll) rfl ?_)
        exact ⟨rfl, ez.transN hE9_1 (fun x hx => by omega)⟩
      · try simp only [decide_eq_true_eq, decide_eq_false_iff_not, Bool.and_eq_true, Bool.or_eq_true, Bool.and_eq_false_iff, Bool.or_eq_false_iff, Bool.not_eq_true', Bool.not_eq_false', beq_iff_eq, bne_iff_ne] at hc4
        have kz : Blk w1_10 b1_9 27 (cmdL (kindN k) (sessN k s) (nameN k m)) := by rw [sessN, if_neg (by omega), nameN, if_neg (by omega)]; exact k1
        refine CW.skip ?_
        refine blockE_norm ?_
        refine thenE_norm (h3 _ _ ?_); clear h3; try clear K3
        refine CW.seq (fun K10 h10 => ?_)
        refine CW.region ?_
        refine r_loadA rfl Try.isAgg27 Try.sizeOf27 rfl (kz.cellsAll) rfl ?_
        refine r_storeA Try.sizeOf27 rfl (by simp only [upd_get, ev, Nat.reduceEqDiff, ↓reduceIte] <;> rfl) rfl rfl rfl k0 (by decide) ?_
        intro w9_1 hs9_1 hE9_1 hB9_1
        refine LW.nil ?_
        refine thenE_norm ?_
        refine cut (K := K10) [6] (fun σ => ?_)
        simp only [setL, keepE, upd_get, ev, Nat.reduceEqDiff, ↓reduceIte]
        refine h10 _ _ ?_; clear h10; try clear K10
        refine CW.ret (retC1 Try.results75 (by simp only [upd_get, ev, Nat.reduceEqDiff, ↓reduceIte] <;> rfl) Try.isAgg27 Try.sizeOf27 (hB9_1.cellsAll) rfl ?_)
        exact ⟨rfl, ez.transN hE9_1 (fun x hx => by omega)⟩
    · try simp only [decide_eq_true_eq, decide_eq_false_iff_not, Bool.and_eq_true, Bool.or_eq_true, Bool.and_eq_false_iff, Bool.or_eq_false_iff, Bool.not_eq_true', Bool.not_eq_false', beq_iff_eq, bne_iff_ne] at hc2
      refine CW.seq (fun K11 h11 => ?_)
      refine CW.region ?_
      refine r_eql rfl rfl rfl ?_
      refine r_assign rfl ?_
      refine LW.nil ?_
      refine thenE_norm ?_
      refine cut (K := K11) [2, 6, 7, 18, 22] (fun σ => ?_)
      simp only [setL, keepE, upd_get, ev, Nat.reduceEqDiff, ↓reduceIte]
      refine h11 _ _ ?_; clear h11; try clear K11
      refine CW.cond rfl (fun hc3 => ?_) (fun hc3 => ?_)
      · try simp only [decide_eq_true_eq, decide_eq_false_iff_not, Bool.and_eq_true, Bool.or_eq_true, Bool.and_eq_false_iff, Bool.or_eq_false_iff, Bool.not_eq_true', Bool.not_eq_false', beq_iff_eq, bne_iff_ne] at hc3
        refine CW.skip ?_
        refine thenE_norm (h7 _ _ ?_); clear h7; try clear K7
        refine CW.cond rfl (fun hc4 => ?_) (fun hc4 => ?_)
        · try simp only [decide_eq_true_eq, decide_eq_false_iff_not, Bool.and_eq_true, Bool.or_eq_true, Bool.and_eq_false_iff, Bool.or_eq_false_iff, Bool.not_eq_true', Bool.not_eq_false', beq_iff_eq, bne_iff_ne] at hc4
          refine CW.region ?_
          refine r_move rfl ?_
          refine r_call rfl Try.call41 rfl (Named_c m _ hm hm2) ?_
          rintro _ w8 ⟨rfl, hE8⟩
          refine ⟨_, rfl, ?_⟩
          have k1 := k1.up0 hE8
          have k0 := k0.up0 hE8
          have ez := ez.trans hE8
          refine r_fieldAddr rfl Try.underlying27 rfl Try.sizeOf9 (by decide) rfl ?_
          refine r_store Try.sizeOf9 rfl (by simp only [upd_get, ev, Nat.reduceEqDiff, ↓reduceIte] <;> rfl) rfl k1 (by show 2 < 3; decide) ?_
          intro w8_3 hs8_3 hE8_3 hB8_3
          have kz : Blk w8_3 b1_9 27 (cmdL (kindN k) (sessN k s) (nameN k m)) := by rw [sessN, if_neg (by omega), nameN, if_pos (by omega)]; exact hB8_3
          have k0 := k0.up hE8_3 (by omega)
          have ez : Ext0 w w8_3 := ez.transN hE8_3 (fun x hx => by omega)
          try simp only [Nat.zero_add, Nat.mul_one] at hB8_3
          refine LW.nil ?_
          refine blockE_norm ?_
          refine thenE_norm (h3 _ _ ?_); clear h3; try clear K3
          refine CW.seq (fun K12 h12 => ?_)
          refine CW.region ?_
          refine r_loadA rfl Try.isAgg27 Try.sizeOf27 rfl (kz.cellsAll) rfl ?_
          refine r_storeA Try.sizeOf27 rfl (by simp only [upd_get, ev, Nat.reduceEqDiff, ↓reduceIte] <;> rfl) rfl rfl rfl k0 (by decide) ?_
          intro w9_1 hs9_1 hE9_1 hB9_1
          refine LW.nil ?_
          refine thenE_norm (h12 _ _ ?_); clear h12; try clear K12
          refine CW.ret (retC1 Try.results75 (by simp only [upd_get, ev, Nat.reduceEqDiff, ↓reduceIte] <;> rfl) Try.isAgg27 Try.sizeOf27 (hB9_1.cellsAll) rfl ?_)
          exact ⟨rfl, ez.transN hE9_1 (fun x hx => by omega)⟩
        · try simp only [decide_eq_true_eq, decide_eq_false_iff_not, Bool.and_eq_true, Bool.or_eq_true, Bool.and_eq_false_iff, Bool.or_eq_false_iff, Bool.not_eq_true', Bool.not_eq_false', beq_iff_eq, bne_iff_ne] at hc4
          have kz : Blk w1_10 b1_9 27 (cmdL (kindN k) (sessN k s) (nameN k m)) := by rw [sessN, if_neg (by omega), nameN, if_neg (by omega)]; exact k1
          refine CW.skip ?_
          refine blockE_norm ?_
          refine thenE_norm (h3 _ _ ?_); clear h3; try clear K3
          refine CW.seq (fun K13 h13 => ?_)
          refine CW.region ?_
          refine r_loadA rfl Try.isAgg27 Try.sizeOf27 rfl (kz.cellsAll) rfl ?_
          refine r_storeA Try.sizeOf27 rfl (by simp only [upd_get, ev, Nat.reduceEqDiff, ↓reduceIte] <;> rfl) rfl rfl rfl k0 (by decide) ?_
          intro w9_1 hs9_1 hE9_1 hB9_1
          refine LW.nil ?_
          refine thenE_norm (h13 _ _ ?_); clear h13; try clear K13
          refine CW.ret (retC1 Try.results75 (by simp only [upd_get, ev, Nat.reduceEqDiff, ↓reduceIte] <;> rfl) Try.isAgg27 Try.sizeOf27 (hB9_1.cellsAll) rfl ?_)
          exact ⟨rfl, ez.transN hE9_1 (fun x hx => by omega)⟩
      · try simp only [decide_eq_true_eq, decide_eq_false_iff_not, Bool.and_eq_true, Bool.or_eq_true, Bool.and_eq_false_iff, Bool.or_eq_false_iff, Bool.not_eq_true', Bool.not_eq_false', beq_iff_eq, bne_iff_ne] at hc3
        refine CW.region ?_
        refine r_eql rfl rfl rfl ?_
        refine r_assign rfl ?_
        refine LW.nil ?_
        refine thenE_norm (h7 _ _ ?_); clear h7; try clear K7
        refine CW.cond rfl (fun hc4 => ?_) (fun hc4 => ?_)
        · try simp only [decide_eq_true_eq, decide_eq_false_iff_not, Bool.and_eq_true, Bool.or_eq_true, Bool.and_eq_false_iff, Bool.or_eq_false_iff, Bool.not_eq_true', Bool.not_eq_false', beq_iff_eq, bne_iff_ne] at hc4
          refine CW.region ?_
          refine r_move rfl ?_
          refine r_call rfl Try.call41 rfl (Named_c m _ hm hm2) ?_
          rintro _ w8 ⟨rfl, hE8⟩
          refine ⟨_, rfl, ?_⟩
          have k1 := k1.up0 hE8
          have k0 := k0.up0 hE8
          have ez := ez.trans hE8
          refine r_fieldAddr rfl Try.underlying27 rfl Try.sizeOf9 (by decide) rfl ?_
          refine r_store Try.sizeOf9 rfl (by simp only [upd_get, ev, Nat.reduceEqDiff, ↓reduceIte] <;> rfl) rfl k1 (by show 2 < 3; decide) ?_
          intro w8_3 hs8_3 hE8_3 hB8_3
          have kz : Blk w8_3 b1_9 27 (cmdL (kindN k) (sessN k s) (nameN k m)) := by rw [sessN, if_neg (by omega), nameN, if_pos (by omega)]; exact hB8_3
          have k0 := k0.up hE8_3 (by omega)
          have ez : Ext0 w w8_3 := ez.transN hE8_3 (fun x hx => by omega)
          try simp only [Nat.zero_add, Nat.mul_one] at hB8_3
          refine LW.nil ?_
          refine blockE_norm ?_
          refine thenE_norm (h3 _ _ ?_); clear h3; try clear K3
          refine CW.seq (fun K14 h14 => ?_)
          refine CW.region ?_
          refine r_loadA rfl Try.isAgg27 Try.sizeOf27 rfl (kz.cellsAll) rfl ?_
          refine r_storeA Try.sizeOf27 rfl (by simp only [upd_get, ev, Nat.reduceEqDiff, ↓reduceIte] <;> rfl) rfl rfl rfl k0 (by decide) ?_
          intro w9_1 hs9_1 hE9_1 hB9_1
          refine LW.nil ?_
          refine thenE_norm ?_
          refine cut (K := K14) [6] (fun σ => ?_)
          simp only [setL, keepE, upd_get, ev, Nat.reduceEqDiff, ↓reduceIte]
          refine h14 _ _ ?_; clear h14; try clear K14
          refine CW.ret (retC1 Try.results75 (by simp only [upd_get, ev, Nat.reduceEqDiff, ↓reduceIte] <;> rfl) Try.isAgg27 Try.sizeOf27 (hB9_1.cellsAll) rfl ?_)
          exact ⟨rfl, ez.transN hE9_1 (fun x hx => by omega)⟩
        · try simp only [decide_eq_true_eq, decide_eq_false_iff_not, Bool.and_eq_true, Bool.or_eq_true, Bool.and_eq_false_iff, Bool.or_eq_false_iff, Bool.not_eq_true', Bool.not_eq_false', beq_iff_eq, bne_iff_ne] at hc4
          have kz : Blk w1_10 b1_9 27 (cmdL (kindN k) (sessN k s) (nameN k m)) := by rw [sessN, if_neg (by omega), nameN, if_neg (by omega)]; exact k1
          refine CW.skip ?_
          refine blockE_norm ?_
          refine thenE_norm (h3 _ _ ?_); clear h3; try clear K3
          refine CW.seq (fun K15 h15 => ?_)
          refine CW.region ?_
          refine r_loadA rfl Try.isAgg27 Try.sizeOf27 rfl (kz.cellsAll) rfl ?_
          refine r_storeA Try.sizeOf27 rfl (by simp only [upd_get, ev, Nat.reduceEqDiff, ↓reduceIte] <;> rfl) rfl rfl rfl k0 (by decide) ?_
          intro w9_1 hs9_1 hE9_1 hB9_1
          refine LW.nil ?_
          refine thenE_norm (h15 _ _ ?_); clear h15; try clear K15
          refine CW.ret (retC1 Try.results75 (by simp only [upd_get, ev, Nat.reduceEqDiff, ↓reduceIte] <;> rfl) Try.isAgg27 Try.sizeOf27 (hB9_1.cellsAll) rfl ?_)
          exact ⟨rfl, ez.transN hE9_1 (fun x hx => by omega)⟩
/-- An act's request. -/
def actR (c q : UInt8) : Rq := ⟨(c.toNat : Int) % 8, 1 + (q.toNat : Int) % 9, ⟨kindN q.toNat, sessN q.toNat c.toNat, nameN q.toNat q.toNat⟩⟩
theorem u8_256 (x : UInt8) : 0 ≤ (x.toNat : Int) ∧ (x.toNat : Int) < 256 := by have := x.toNat_lt; omega
theorem req_c (a : ActP) (w : World) : Calls Try.prog 22 #[agg a] w fun e w' => e = .returned (agg (actR a.client a.seq)) ∧ Ext0 w w' := by
  have H := SH.start (U := Non) (G := Any) w
  have hc8 := u8_256 a.client
  have hs8 := u8_256 a.seq
  refine calls_of_CW Try.func22 rfl Try.ntmps22 (Nat.le_of_ble_eq_true rfl) ?_
  simp only [argE, argFrom, Nat.reduceAdd]
  refine CW.seq (fun K1 h1 => ?_)
  refine CW.region ?_
  refine s_box H rfl (by simp only [upd_get, ev, Nat.reduceEqDiff, ↓reduceIte] <;> rfl) rfl ?_
  clear H
  intro b0_0 w0_0 H
  try dsimp only [replC, List.cons_append, List.nil_append, List.append_nil, agg, cellsL, Value.cells, List.toList_toArray, List.set_cons_zero, List.set_cons_succ, spliceL, List.take_succ_cons, List.take_zero, List.drop_succ_cons, List.drop_zero, List.length_cons, List.length_nil, Nat.reduceAdd, Row.cells, Cm.L, Rq.L, Ent.L, ActP.L] at H
  refine s_alloc (cs := [.int .i64 0, .int .i64 0, .int .i64 0, .int .i64 0, .string (ByteArray.mk #[])]) H rfl Try.zeroValue29 rfl ?_
  clear H
  intro b0_1 w0_1 H
  try dsimp only [replC, List.cons_append, List.nil_append, List.append_nil, agg, cellsL, Value.cells, List.toList_toArray, List.set_cons_zero, List.set_cons_succ, spliceL, List.take_succ_cons, List.take_zero, List.drop_succ_cons, List.drop_zero, List.length_cons, List.length_nil, Nat.reduceAdd, Row.cells, Cm.L, Rq.L, Ent.L, ActP.L] at H
  refine LW.nil ?_
  refine thenE_norm (h1 _ _ ?_); clear h1; try clear K1
  refine CW.seq (fun K2 h2 => ?_)
  refine CW.drawH [17] H (List.Sublist.refl _) (by kernel_rfl) rfl ?_
  clear H
  intro w1d H
  refine DL.take (i := 0) [0, 1, 2, 3, 16, 17] rfl (by kernel_rfl) (by kernel_rfl) (by kernel_rfl) (by kernel_rfl) rfl rfl (fun u H => x_fieldAddrO Try.underlying38 rfl Try.sizeOf5 (by decide) (show _ = 3 from rfl) rfl) H ?_
  refine DL.take (i := 1) [1, 2, 3, 16, 17] rfl (by kernel_rfl) (by kernel_rfl) (by kernel_rfl) (by kernel_rfl) rfl rfl (fun u H => x_load Try.isAgg5 rfl (by first | exact SH.cellB H (by (repeat first | exact At.here | apply At.there); done) (by rfl) | assumption)) H ?_
  refine DL.take (i := 2) [2, 3, 16, 17] rfl (by kernel_rfl) (by kernel_rfl) (by kernel_rfl) (by kernel_rfl) rfl rfl (fun u H => x_convI Try.underlying5 Try.underlying3 rfl (wr_i64 (by omega) (by omega))) H ?_
  refine DL.take (i := 3) [3, 16, 17] rfl (by kernel_rfl) (by kernel_rfl) (by kernel_rfl) (by kernel_rfl) rfl rfl (fun u H => x_rem rfl rfl (by omega) (by omega) (wr_i64 (by omega) (by omega))) H ?_
  refine DL.take (i := 4) [4, 5, 6, 7, 8, 16, 17] rfl (by kernel_rfl) (by kernel_rfl) (by kernel_rfl) (by kernel_rfl) rfl rfl (fun u H => x_fieldAddrO Try.underlying38 rfl Try.sizeOf5 (by decide) (show _ = 4 from rfl) rfl) H ?_
  refine DL.take (i := 5) [5, 6, 7, 8, 16, 17] rfl (by kernel_rfl) (by kernel_rfl) (by kernel_rfl) (by kernel_rfl) rfl rfl (fun u H => x_load Try.isAgg5 rfl (by first | exact SH.cellB H (by (repeat first | exact At.here | apply At.there); done) (by rfl) | assumption)) H ?_
  refine DL.take (i := 6) [6, 7, 8, 16, 17] rfl (by kernel_rfl) (by kernel_rfl) (by kernel_rfl) (by kernel_rfl) rfl rfl (fun u H => x_convI Try.underlying5 Try.underlying3 rfl (wr_i64 (by omega) (by omega))) H ?_
  refine DL.take (i := 7) [7, 8, 16, 17] rfl (by kernel_rfl) (by kernel_rfl) (by kernel_rfl) (by kernel_rfl) rfl rfl (fun u H => x_rem rfl rfl (by omega) (by omega) (wr_i64 (by omega) (by omega))) H ?_
  refine DL.take (i := 8) [8, 16, 17] rfl (by kernel_rfl) (by kernel_rfl) (by kernel_rfl) (by kernel_rfl) rfl rfl (fun u H => x_add rfl rfl (wr_i64 (by omega) (by omega))) H ?_
  refine DL.take (i := 9) [9, 10, 15, 16, 17] rfl (by kernel_rfl) (by kernel_rfl) (by kernel_rfl) (by kernel_rfl) rfl rfl (fun u H => x_fieldAddrO Try.underlying38 rfl Try.sizeOf5 (by decide) (show _ = 4 from rfl) rfl) H ?_
  refine DL.take (i := 10) [10, 15, 16, 17] rfl (by kernel_rfl) (by kernel_rfl) (by kernel_rfl) (by kernel_rfl) rfl rfl (fun u H => x_load Try.isAgg5 rfl (by first | exact SH.cellB H (by (repeat first | exact At.here | apply At.there); done) (by rfl) | assumption)) H ?_
  refine DL.take (i := 11) [11, 12, 15, 16, 17] rfl (by kernel_rfl) (by kernel_rfl) (by kernel_rfl) (by kernel_rfl) rfl rfl (fun u H => x_fieldAddrO Try.underlying38 rfl Try.sizeOf5 (by decide) (show _ = 3 from rfl) rfl) H ?_
  refine DL.take (i := 12) [12, 15, 16, 17] rfl (by kernel_rfl) (by kernel_rfl) (by kernel_rfl) (by kernel_rfl) rfl rfl (fun u H => x_load Try.isAgg5 rfl (by first | exact SH.cellB H (by (repeat first | exact At.here | apply At.there); done) (by rfl) | assumption)) H ?_
  refine DL.take (i := 13) [13, 14, 15, 16, 17] rfl (by kernel_rfl) (by kernel_rfl) (by kernel_rfl) (by kernel_rfl) rfl rfl (fun u H => x_fieldAddrO Try.underlying38 rfl Try.sizeOf5 (by decide) (show _ = 4 from rfl) rfl) H ?_
  refine DL.take (i := 14) [14, 15, 16, 17] rfl (by kernel_rfl) (by kernel_rfl) (by kernel_rfl) (by kernel_rfl) rfl rfl (fun u H => x_load Try.isAgg5 rfl (by first | exact SH.cellB H (by (repeat first | exact At.here | apply At.there); done) (by rfl) | assumption)) H ?_
  refine DL.one (i := 15) (by kernel_rfl) rfl rfl ?_
  refine r_call rfl Try.call75 (by simp only [List.map_cons, List.map_nil, List.map_toArray, List.toList_toArray, upd_get, ev, Nat.reduceEqDiff, ↓reduceIte] <;> rfl) (Cmd_c a.seq.toNat a.client.toNat a.seq.toNat _ hs8.1 hs8.2 hc8.1 hc8.2 hs8.1 hs8.2) ?_
  rintro _ w1_15 ⟨rfl, X⟩
  refine ⟨_, rfl, ?_⟩
  replace H := SH.same H X
  clear X
  refine LW.nil (thenE_norm ⟨fun _ => (SH.sub H (by repeat first | exact List.Sublist.refl _ | exact List.nil_sublist _ | apply List.Sublist.cons_cons | apply List.Sublist.cons)), ?_⟩)
  refine DL.take (i := 16) [16, 17] rfl (by kernel_rfl) (by kernel_rfl) (by kernel_rfl) (by kernel_rfl) rfl rfl (fun u H => x_buildQ Try.underlying29 Try.zeroValue29 rfl (pl := [(0, 1), (1, 1), (2, 3)]) (by intro w; simp [go_sem]) (qs := [(0, [_]), (1, [_]), (2, [_, _, _])]) (cs := [_, _, _, _, _]) ⟨rfl, cells_one (by simp only [upd_get, ev, Nat.reduceEqDiff, ↓reduceIte] <;> rfl) (by first | rfl | exact Rs.oneC (by first | assumption | exact SH.rsR H (by (repeat first | exact At.here | apply At.there); done) | exact SH.rsO H (by (repeat first | exact At.here | apply At.there); done) | exact (Rs.nil : Rs Non _ _ _))), rfl, cells_one (by simp only [upd_get, ev, Nat.reduceEqDiff, ↓reduceIte] <;> rfl) (by first | rfl | exact Rs.oneC (by first | assumption | exact SH.rsR H (by (repeat first | exact At.here | apply At.there); done) | exact SH.rsO H (by (repeat first | exact At.here | apply At.there); done) | exact (Rs.nil : Rs Non _ _ _))), rfl, (by simp only [upd_get, ev, Nat.reduceEqDiff, ↓reduceIte, cellsL, agg, List.toList_toArray, Row.cells, Cm.L, Rq.L, Ent.L, ActP.L] <;> rfl), trivial⟩ rfl) (SH.sub H (by repeat first | exact List.Sublist.refl _ | exact List.nil_sublist _ | apply List.Sublist.cons_cons | apply List.Sublist.cons)) ?_
  refine DL.one (i := 17) (by kernel_rfl) rfl rfl ?_
  refine s_storeA H Try.sizeOf29 rfl (by simp only [upd_get, ev, Nat.reduceEqDiff, ↓reduceIte] <;> rfl) (by simp only [cellsL, agg, List.toList_toArray, Row.cells, Cm.L, Rq.L, Ent.L, ActP.L] <;> rfl) (by rfl) (by first | rfl | assumption | exact Rs.oneC (by first | assumption | exact SH.rsR H (by (repeat first | exact At.here | apply At.there); done) | exact SH.rsO H (by (repeat first | exact At.here | apply At.there); done) | exact (Rs.nil : Rs Non _ _ _)) | (simp only [List.all_cons, List.all_nil, Bool.and_true, Bool.and_eq_true, Row.cells, Cm.L, Rq.L, Ent.L, ActP.L]; (repeat' constructor) <;> first | rfl | assumption | exact Rs.oneC (by first | assumption | exact SH.rsR H (by (repeat first | exact At.here | apply At.there); done) | exact SH.rsO H (by (repeat first | exact At.here | apply At.there); done) | exact (Rs.nil : Rs Non _ _ _)))) (by (repeat first | exact At.here | apply At.there); done) (by first | (simp; done) | decide | (show _ ≤ _; decide)) ?_
  clear H
  intro w1_17 H
  try dsimp only [replC, List.cons_append, List.nil_append, List.append_nil, agg, cellsL, Value.cells, List.toList_toArray, List.set_cons_zero, List.set_cons_succ, spliceL, List.take_succ_cons, List.take_zero, List.drop_succ_cons, List.drop_zero, List.length_cons, List.length_nil, Nat.reduceAdd, Row.cells, Cm.L, Rq.L, Ent.L, ActP.L] at H
  refine LW.nil (thenE_norm ⟨fun h => Bool.noConfusion (show true = false from h), ?_⟩)
  refine DL.done (by kernel_rfl) ?_
  refine thenE_norm ?_
  refine cut (K := K2) [2] (fun σ => ?_)
  simp only [setL, keepE, upd_get, ev, Nat.reduceEqDiff, ↓reduceIte]
  refine h2 _ _ ?_; clear h2; try clear K2
  refine CW.ret (retC1 Try.results22 (by simp only [upd_get, ev, Nat.reduceEqDiff, ↓reduceIte] <;> rfl) Try.isAgg29 Try.sizeOf29 (by exact SH.cells H (by (repeat first | exact At.here | apply At.there); done)) (by rfl) ?_)
  exact ⟨rfl, H.ext⟩
end Go.Proofs.Ytlfbofnfhhddbaa
