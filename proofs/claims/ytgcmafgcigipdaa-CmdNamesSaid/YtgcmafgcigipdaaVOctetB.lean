/-
  The walks of layer 1's functions, and of the document's: the second part.
-/
import Derived.Test.YtgcmafgcigipdaaVOctetA
namespace Go.Proofs.Ytgcmafgcigipdaa
set_option linter.unusedSimpArgs false
set_option linter.unusedVariables false
set_option maxRecDepth 20000
open Go.V Go.RowKit

theorem PutNumR_c (n : Int) (w : World) :
    Calls Try.prog 25 #[.int .i64 n] w fun e w' => ∃ v, e = .returned (.tuple #[v, .int .i64 (putNumM n).2]) ∧ Bs (New w) w' v (putNumM n).1 ∧ Ext0 w w' := by
  by_cases h : 0 ≤ n ∧ n < 4611686018427387904
  · simp only [putNumM, if_pos h]
    refine calls_of_CW Try.func25 rfl Try.ntmps25 (Nat.le_of_ble_eq_true rfl) ?_
    simp only [argE, argFrom, Nat.reduceAdd]
    refine CW.seq (fun K1 h1 => ?_)
    refine CW.region ?_
    refine r_assign rfl ?_
    refine r_assign rfl ?_
    refine LW.nil ?_
    refine thenE_norm (h1 _ _ ?_); clear h1; try clear K1
    refine CW.seq (fun K2 h2 => ?_)
    refine CW.seq (fun K3 h3 => ?_)
    refine CW.region ?_
    refine r_move rfl ?_
    refine r_lss rfl rfl rfl ?_
    refine r_move rfl ?_
    refine' LW.grpOr (n := 3) (ts := [0]) (d := 9) (tj := 6) rfl (fun hg1_3 => ?_) (fun hg1_3 => ?_) (fun σ => ?_)
    rotate_left
    · simp only [List.take_succ_cons, List.take_zero]
      have hg1_3P := hg1_3
      try simp only [decide_eq_true_eq, decide_eq_false_iff_not, Bool.and_eq_true, Bool.or_eq_true, Bool.and_eq_false_iff, Bool.or_eq_false_iff, Bool.not_eq_true', Bool.not_eq_false', beq_iff_eq, bne_iff_ne] at hg1_3P
      refine LW.want rfl rfl hg1_3 ?_
      refine r_move rfl ?_
      refine LW.want rfl rfl hg1_3 ?_
      refine r_geq rfl rfl rfl ?_
      refine r_pickF rfl rfl hg1_3 ?_
      refine LW.nil (thenE_norm ⟨rfl, rfl, rfl⟩)
    · simp only [List.take_succ_cons, List.take_zero]
      refine LW.skip rfl (fun _ e => by cases e; decide) rfl hg1_3 ?_
      refine LW.skip rfl (fun _ e => by cases e; decide) rfl hg1_3 ?_
      refine r_pickT rfl rfl hg1_3 ?_
      refine LW.nil (thenE_norm ⟨rfl, rfl, rfl⟩)
    simp only [setL, keepE, upd_get, ev, Nat.reduceEqDiff, ↓reduceIte]; simp only [List.drop_succ_cons, List.drop_zero]
    refine LW.nil ?_
    refine thenE_norm (h3 _ _ ?_); clear h3; try clear K3
    refine CW.condF rfl (by simp; omega) ?_
    refine CW.skip ?_
    refine thenE_norm (h2 _ _ ?_); clear h2; try clear K2
    refine CW.seq (fun K4 h4 => ?_)
    refine CW.region ?_
    refine r_move rfl ?_
    refine r_call rfl Try.call52 rfl (Eight_c n _ (by omega) (by omega)) ?_
    rintro _ w1 ⟨v1, rfl, hv1, hE1⟩
    refine ⟨_, rfl, ?_⟩
    refine r_assign rfl ?_
    refine r_assign rfl ?_
    refine LW.nil ?_
    refine thenE_norm (h4 _ _ ?_); clear h4; try clear K4
    refine CW.ret (ret2 Try.results25 (by simp only [upd_get, ev, Nat.reduceEqDiff, ↓reduceIte]; rfl) (by simp only [upd_get, ev, Nat.reduceEqDiff, ↓reduceIte]; rfl) ?_)
    exact ⟨_, rfl, hv1, hE1⟩
  · simp only [putNumM, if_neg h]
    refine calls_of_CW Try.func25 rfl Try.ntmps25 (Nat.le_of_ble_eq_true rfl) ?_
    simp only [argE, argFrom, Nat.reduceAdd]
    refine CW.seq (fun K1 h1 => ?_)
    refine CW.region ?_
    refine r_assign rfl ?_
    refine r_assign rfl ?_
    refine LW.nil ?_
    refine thenE_norm (h1 _ _ ?_); clear h1; try clear K1
    refine CW.seq (fun K2 h2 => ?_)
    refine CW.seq (fun K3 h3 => ?_)
    refine CW.region ?_
    refine r_move rfl ?_
    refine r_lss rfl rfl rfl ?_
    refine r_move rfl ?_
    refine' LW.grpOr (n := 3) (ts := [0]) (d := 9) (tj := 6) rfl (fun hg1_3 => ?_) (fun hg1_3 => ?_) (fun σ => ?_)
    rotate_left
    · simp only [List.take_succ_cons, List.take_zero]
      have hg1_3P := hg1_3
      try simp only [decide_eq_true_eq, decide_eq_false_iff_not, Bool.and_eq_true, Bool.or_eq_true, Bool.and_eq_false_iff, Bool.or_eq_false_iff, Bool.not_eq_true', Bool.not_eq_false', beq_iff_eq, bne_iff_ne] at hg1_3P
      refine LW.want rfl rfl hg1_3 ?_
      refine r_move rfl ?_
      refine LW.want rfl rfl hg1_3 ?_
      refine r_geq rfl rfl rfl ?_
      refine r_pickF rfl rfl hg1_3 ?_
      refine LW.nil (thenE_norm ⟨rfl, rfl, rfl⟩)
    · simp only [List.take_succ_cons, List.take_zero]
      refine LW.skip rfl (fun _ e => by cases e; decide) rfl hg1_3 ?_
      refine LW.skip rfl (fun _ e => by cases e; decide) rfl hg1_3 ?_
      refine r_pickT rfl rfl hg1_3 ?_
      refine LW.nil (thenE_norm ⟨rfl, rfl, rfl⟩)
    simp only [setL, keepE, upd_get, ev, Nat.reduceEqDiff, ↓reduceIte]; simp only [List.drop_succ_cons, List.drop_zero]
    refine LW.nil ?_
    refine thenE_norm (h3 _ _ ?_); clear h3; try clear K3
    refine CW.condT rfl (by simp; omega) ?_
    refine CW.seq (fun K4 h4 => ?_)
    refine CW.region ?_
    refine r_assign rfl ?_
    refine r_assign rfl ?_
    refine LW.nil ?_
    refine thenE_norm (h4 _ _ ?_); clear h4; try clear K4
    refine CW.ret (thenE_ret (ret2 Try.results25 (by simp only [upd_get, ev, Nat.reduceEqDiff, ↓reduceIte]; rfl) (by simp only [upd_get, ev, Nat.reduceEqDiff, ↓reduceIte]; rfl) ?_))
    exact ⟨_, rfl, Bs.nil, Ext.refl _ _⟩

theorem PutByte_c (n : Int) (w : World) :
    Calls Try.prog 27 #[.int .i64 n] w fun e w' => ∃ v, e = .returned (.tuple #[v, .int .i64 (putByteM n).2]) ∧ Bs (New w) w' v (putByteM n).1 ∧ Ext0 w w' := by
  refine calls_of_CW Try.func27 rfl Try.ntmps27 (Nat.le_of_ble_eq_true rfl) ?_
  simp only [argE, argFrom, Nat.reduceAdd]
  refine CW.seq (fun K1 h1 => ?_)
  refine CW.region ?_
  refine r_assign rfl ?_
  refine r_assign rfl ?_
  refine LW.nil ?_
  refine thenE_norm (h1 _ _ ?_); clear h1; try clear K1
  refine CW.seq (fun K2 h2 => ?_)
  refine CW.seq (fun K3 h3 => ?_)
  refine CW.region ?_
  refine r_move rfl ?_
  refine r_lss rfl rfl rfl ?_
  refine r_move rfl ?_
  refine' LW.grpOr (n := 3) (ts := [0]) (d := 9) (tj := 6) rfl (fun hg1_3 => ?_) (fun hg1_3 => ?_) (fun σ => ?_)
  rotate_left
  · simp only [List.take_succ_cons, List.take_zero]
    have hg1_3P := hg1_3
    try simp only [decide_eq_true_eq, decide_eq_false_iff_not, Bool.and_eq_true, Bool.or_eq_true, Bool.and_eq_false_iff, Bool.or_eq_false_iff, Bool.not_eq_true', Bool.not_eq_false', beq_iff_eq, bne_iff_ne] at hg1_3P
    refine LW.want rfl rfl hg1_3 ?_
    refine r_move rfl ?_
    refine LW.want rfl rfl hg1_3 ?_
    refine r_gtr rfl rfl rfl ?_
    refine r_pickF rfl rfl hg1_3 ?_
    refine LW.nil (thenE_norm ⟨rfl, rfl, rfl⟩)
  · simp only [List.take_succ_cons, List.take_zero]
    refine LW.skip rfl (fun _ e => by cases e; decide) rfl hg1_3 ?_
    refine LW.skip rfl (fun _ e => by cases e; decide) rfl hg1_3 ?_
    refine r_pickT rfl rfl hg1_3 ?_
    refine LW.nil (thenE_norm ⟨rfl, rfl, rfl⟩)
  simp only [setL, keepE, upd_get, ev, Nat.reduceEqDiff, ↓reduceIte]; simp only [List.drop_succ_cons, List.drop_zero]
  refine LW.nil ?_
  refine thenE_norm (h3 _ _ ?_); clear h3; try clear K3
  refine CW.cond rfl (fun hc1 => ?_) (fun hc1 => ?_)
  · try simp only [decide_eq_true_eq, decide_eq_false_iff_not, Bool.and_eq_true, Bool.or_eq_true, Bool.and_eq_false_iff, Bool.or_eq_false_iff, Bool.not_eq_true', Bool.not_eq_false', beq_iff_eq, bne_iff_ne] at hc1
    refine CW.seq (fun K4 h4 => ?_)
    refine CW.region ?_
    refine r_assign rfl ?_
    refine r_assign rfl ?_
    refine LW.nil ?_
    refine thenE_norm (h4 _ _ ?_); clear h4; try clear K4
    refine CW.ret (thenE_ret (ret2 Try.results27 (by simp only [upd_get, ev, Nat.reduceEqDiff, ↓reduceIte]; rfl) (by simp only [upd_get, ev, Nat.reduceEqDiff, ↓reduceIte]; rfl) ?_))
    rw [putByteM, if_neg (by omega)]
    exact ⟨_, rfl, Bs.nil, Ext.refl _ _⟩
  · try simp only [decide_eq_true_eq, decide_eq_false_iff_not, Bool.and_eq_true, Bool.or_eq_true, Bool.and_eq_false_iff, Bool.or_eq_false_iff, Bool.not_eq_true', Bool.not_eq_false', beq_iff_eq, bne_iff_ne] at hc1
    refine CW.skip ?_
    refine thenE_norm (h2 _ _ ?_); clear h2; try clear K2
    refine CW.seq (fun K5 h5 => ?_)
    refine CW.region ?_
    refine r_move rfl ?_
    refine r_convI rfl Try.underlying3 Try.underlying5 rfl (wr_u8 (by omega) (by omega)) ?_
    refine r_buildSlice rfl Try.underlying23 Try.sizeOf5 Try.zeroValue5 rfl rfl rfl rfl ?_
    intro b3_2 w3_2 hb3_2 hs3_2 hE3_2 hB3_2
    refine r_assign rfl ?_
    refine r_assign rfl ?_
    refine LW.nil ?_
    refine thenE_norm (h5 _ _ ?_); clear h5; try clear K5
    refine CW.ret (ret2 Try.results27 (by simp only [upd_get, ev, Nat.reduceEqDiff, ↓reduceIte]; rfl) (by simp only [upd_get, ev, Nat.reduceEqDiff, ↓reduceIte]; rfl) ?_)
    rw [putByteM, if_pos (by omega)]
    exact ⟨_, rfl, Bs.ofBlk (xs := [UInt8.ofNat n.toNat]) (by rw [show [UInt8.ofNat n.toNat].map u8v = [.int .u8 n] from by simp [u8v]; omega]; exact hB3_2) (by show w.heap.size ≤ b3_2; omega) rfl (by decide) (by decide), hE3_2⟩
theorem PutByteR_c (n : Int) (w : World) :
    Calls Try.prog 28 #[.int .i64 n] w fun e w' => ∃ v, e = .returned (.tuple #[v, .int .i64 (putByteM n).2]) ∧ Bs (New w) w' v (putByteM n).1 ∧ Ext0 w w' := by
  refine calls_of_CW Try.func28 rfl Try.ntmps28 (Nat.le_of_ble_eq_true rfl) ?_
  simp only [argE, argFrom, Nat.reduceAdd]
  refine CW.seq (fun K1 h1 => ?_)
  refine CW.region ?_
  refine r_assign rfl ?_
  refine r_assign rfl ?_
  refine LW.nil ?_
  refine thenE_norm (h1 _ _ ?_); clear h1; try clear K1
  refine CW.seq (fun K2 h2 => ?_)
  refine CW.seq (fun K3 h3 => ?_)
  refine CW.region ?_
  refine r_move rfl ?_
  refine r_lss rfl rfl rfl ?_
  refine r_move rfl ?_
  refine' LW.grpOr (n := 3) (ts := [0]) (d := 9) (tj := 6) rfl (fun hg1_3 => ?_) (fun hg1_3 => ?_) (fun σ => ?_)
  rotate_left
  · simp only [List.take_succ_cons, List.take_zero]
    have hg1_3P := hg1_3
    try simp only [decide_eq_true_eq, decide_eq_false_iff_not, Bool.and_eq_true, Bool.or_eq_true, Bool.and_eq_false_iff, Bool.or_eq_false_iff, Bool.not_eq_true', Bool.not_eq_false', beq_iff_eq, bne_iff_ne] at hg1_3P
    refine LW.want rfl rfl hg1_3 ?_
    refine r_move rfl ?_
    refine LW.want rfl rfl hg1_3 ?_
    refine r_gtr rfl rfl rfl ?_
    refine r_pickF rfl rfl hg1_3 ?_
    refine LW.nil (thenE_norm ⟨rfl, rfl, rfl⟩)
  · simp only [List.take_succ_cons, List.take_zero]
    refine LW.skip rfl (fun _ e => by cases e; decide) rfl hg1_3 ?_
    refine LW.skip rfl (fun _ e => by cases e; decide) rfl hg1_3 ?_
    refine r_pickT rfl rfl hg1_3 ?_
    refine LW.nil (thenE_norm ⟨rfl, rfl, rfl⟩)
  simp only [setL, keepE, upd_get, ev, Nat.reduceEqDiff, ↓reduceIte]; simp only [List.drop_succ_cons, List.drop_zero]
  refine LW.nil ?_
  refine thenE_norm (h3 _ _ ?_); clear h3; try clear K3
  refine CW.cond rfl (fun hc1 => ?_) (fun hc1 => ?_)
  · try simp only [decide_eq_true_eq, decide_eq_false_iff_not, Bool.and_eq_true, Bool.or_eq_true, Bool.and_eq_false_iff, Bool.or_eq_false_iff, Bool.not_eq_true', Bool.not_eq_false', beq_iff_eq, bne_iff_ne] at hc1
    refine CW.seq (fun K4 h4 => ?_)
    refine CW.region ?_
    refine r_assign rfl ?_
    refine r_assign rfl ?_
    refine LW.nil ?_
    refine thenE_norm (h4 _ _ ?_); clear h4; try clear K4
    refine CW.ret (thenE_ret (ret2 Try.results28 (by simp only [upd_get, ev, Nat.reduceEqDiff, ↓reduceIte]; rfl) (by simp only [upd_get, ev, Nat.reduceEqDiff, ↓reduceIte]; rfl) ?_))
    rw [putByteM, if_neg (by omega)]
    exact ⟨_, rfl, Bs.nil, Ext.refl _ _⟩
  · try simp only [decide_eq_true_eq, decide_eq_false_iff_not, Bool.and_eq_true, Bool.or_eq_true, Bool.and_eq_false_iff, Bool.or_eq_false_iff, Bool.not_eq_true', Bool.not_eq_false', beq_iff_eq, bne_iff_ne] at hc1
    refine CW.skip ?_
    refine thenE_norm (h2 _ _ ?_); clear h2; try clear K2
    refine CW.seq (fun K5 h5 => ?_)
    refine CW.region ?_
    refine r_move rfl ?_
    refine r_convI rfl Try.underlying3 Try.underlying5 rfl (wr_u8 (by omega) (by omega)) ?_
    refine r_buildSlice rfl Try.underlying23 Try.sizeOf5 Try.zeroValue5 rfl rfl rfl rfl ?_
    intro b3_2 w3_2 hb3_2 hs3_2 hE3_2 hB3_2
    refine r_assign rfl ?_
    refine r_assign rfl ?_
    refine LW.nil ?_
    refine thenE_norm (h5 _ _ ?_); clear h5; try clear K5
    refine CW.ret (ret2 Try.results28 (by simp only [upd_get, ev, Nat.reduceEqDiff, ↓reduceIte]; rfl) (by simp only [upd_get, ev, Nat.reduceEqDiff, ↓reduceIte]; rfl) ?_)
    rw [putByteM, if_pos (by omega)]
    exact ⟨_, rfl, Bs.ofBlk (xs := [UInt8.ofNat n.toNat]) (by rw [show [UInt8.ofNat n.toNat].map u8v = [.int .u8 n] from by simp [u8v]; omega]; exact hB3_2) (by show w.heap.size ≤ b3_2; omega) rfl (by decide) (by decide), hE3_2⟩

theorem PutText_c (s : ByteArray) (w : World) :
    Calls Try.prog 18 #[.string s] w fun e w' => ∃ v, e = .returned (.tuple #[v, .int .i64 (putTextM s.data.toList).2]) ∧ Bs (New w) w' v (putTextM s.data.toList).1 ∧ Ext0 w w' := by
  have hsz : s.data.toList.length = s.size := by simp
  refine calls_of_CW Try.func18 rfl Try.ntmps18 (Nat.le_of_ble_eq_true rfl) ?_
  simp only [argE, argFrom, Nat.reduceAdd]
  refine CW.seq (fun K1 h1 => ?_)
  refine CW.region ?_
  refine r_assign rfl ?_
  refine r_assign rfl ?_
  refine LW.nil ?_
  refine thenE_norm (h1 _ _ ?_); clear h1; try clear K1
  refine CW.seq (fun K2 h2 => ?_)
  refine CW.seq (fun K3 h3 => ?_)
  refine CW.region ?_
  refine r_move rfl ?_
  refine r_lenS rfl Try.underlying9 rfl ?_
  refine r_gtr rfl rfl rfl ?_
  refine LW.nil ?_
  refine thenE_norm (h3 _ _ ?_); clear h3; try clear K3
  refine CW.cond rfl (fun hc1 => ?_) (fun hc1 => ?_)
  · try simp only [decide_eq_true_eq, decide_eq_false_iff_not, Bool.and_eq_true, Bool.or_eq_true, Bool.and_eq_false_iff, Bool.or_eq_false_iff, Bool.not_eq_true', Bool.not_eq_false', beq_iff_eq, bne_iff_ne] at hc1
    refine CW.seq (fun K4 h4 => ?_)
    refine CW.region ?_
    refine r_assign rfl ?_
    refine r_assign rfl ?_
    refine LW.nil ?_
    refine thenE_norm (h4 _ _ ?_); clear h4; try clear K4
    refine CW.ret (thenE_ret (ret2 Try.results18 (by simp only [upd_get, ev, Nat.reduceEqDiff, ↓reduceIte]; rfl) (by simp only [upd_get, ev, Nat.reduceEqDiff, ↓reduceIte]; rfl) ?_))
    rw [putTextM, if_neg (by omega)]
    exact ⟨_, rfl, Bs.nil, Ext.refl _ _⟩
  · try simp only [decide_eq_true_eq, decide_eq_false_iff_not, Bool.and_eq_true, Bool.or_eq_true, Bool.and_eq_false_iff, Bool.or_eq_false_iff, Bool.not_eq_true', Bool.not_eq_false', beq_iff_eq, bne_iff_ne] at hc1
    refine CW.skip ?_
    refine thenE_norm (h2 _ _ ?_); clear h2; try clear K2
    refine CW.seq (fun K5 h5 => ?_)
    refine CW.region ?_
    refine r_move rfl ?_
    refine r_lenS rfl Try.underlying9 rfl ?_
    refine r_convI rfl Try.underlying3 Try.underlying5 rfl (wr_u8 (by omega) (by omega)) ?_
    refine r_buildSlice rfl Try.underlying23 Try.sizeOf5 Try.zeroValue5 rfl rfl rfl rfl ?_
    intro b3_3 w3_3 hb3_3 hs3_3 hE3_3 hB3_3
    have hB : Blk w3_3 b3_3 5 [.int .u8 s.size] := hB3_3
    refine r_move rfl ?_
    refine r_append rfl Try.underlying23 (.inr Try.underlying9) Try.type5 rfl rfl rfl rfl rfl rfl (Own.blk (n := 1) hB rfl (by decide) rfl) (Src.string s) (by simp [maxLen]; omega) (by show (1 + s.size) * 1 ≤ _; omega) ?_
    intro v3_5 w3_5 g3_5 hO3_5 hE3_5 hG3_5 hN3_5
    refine r_assign rfl ?_
    refine r_assign rfl ?_
    refine LW.nil ?_
    refine thenE_norm ?_
    refine cut (K := K5) [2, 3] (fun σ => ?_)
    simp only [setL, keepE, upd_get, ev, Nat.reduceEqDiff, ↓reduceIte]
    refine h5 _ _ ?_; clear h5; try clear K5
    refine CW.ret (ret2 Try.results18 (by simp only [upd_get, ev, Nat.reduceEqDiff, ↓reduceIte]; rfl) (by simp only [upd_get, ev, Nat.reduceEqDiff, ↓reduceIte]; rfl) ?_)
    rw [putTextM, if_pos (by omega)]
    have hS := hO3_5.sl
    refine ⟨_, rfl, ?_, hE3_3.transN hE3_5 (fun x hx => by cases hx; omega)⟩
    unfold Bs
    rw [show (UInt8.ofNat s.data.toList.length :: s.data.toList).length = 1 + s.size from by simp; omega,
      show (UInt8.ofNat s.data.toList.length :: s.data.toList).map u8v = [.int .u8 s.size] ++ s.data.toList.map u8v from by simp [u8v]; omega]
    refine hS.mono fun b _ h => ?_
    show w.heap.size ≤ b
    rcases hG3_5 b h with h | h
    · cases h; omega
    · omega
theorem PutTextR_c (s : ByteArray) (w : World) :
    Calls Try.prog 19 #[.string s] w fun e w' => ∃ v, e = .returned (.tuple #[v, .int .i64 (putTextM s.data.toList).2]) ∧ Bs (New w) w' v (putTextM s.data.toList).1 ∧ Ext0 w w' := by
  have hsz : s.data.toList.length = s.size := by simp
  refine calls_of_CW Try.func19 rfl Try.ntmps19 (Nat.le_of_ble_eq_true rfl) ?_
  simp only [argE, argFrom, Nat.reduceAdd]
  refine CW.seq (fun K1 h1 => ?_)
  refine CW.region ?_
  refine r_assign rfl ?_
  refine r_assign rfl ?_
  refine LW.nil ?_
  refine thenE_norm (h1 _ _ ?_); clear h1; try clear K1
  refine CW.seq (fun K2 h2 => ?_)
  refine CW.seq (fun K3 h3 => ?_)
  refine CW.region ?_
  refine r_move rfl ?_
  refine r_lenS rfl Try.underlying9 rfl ?_
  refine r_gtr rfl rfl rfl ?_
  refine LW.nil ?_
  refine thenE_norm (h3 _ _ ?_); clear h3; try clear K3
  refine CW.cond rfl (fun hc1 => ?_) (fun hc1 => ?_)
  · try simp only [decide_eq_true_eq, decide_eq_false_iff_not, Bool.and_eq_true, Bool.or_eq_true, Bool.and_eq_false_iff, Bool.or_eq_false_iff, Bool.not_eq_true', Bool.not_eq_false', beq_iff_eq, bne_iff_ne] at hc1
    refine CW.seq (fun K4 h4 => ?_)
    refine CW.region ?_
    refine r_assign rfl ?_
    refine r_assign rfl ?_
    refine LW.nil ?_
    refine thenE_norm (h4 _ _ ?_); clear h4; try clear K4
    refine CW.ret (thenE_ret (ret2 Try.results19 (by simp only [upd_get, ev, Nat.reduceEqDiff, ↓reduceIte]; rfl) (by simp only [upd_get, ev, Nat.reduceEqDiff, ↓reduceIte]; rfl) ?_))
    rw [putTextM, if_neg (by omega)]
    exact ⟨_, rfl, Bs.nil, Ext.refl _ _⟩
  · try simp only [decide_eq_true_eq, decide_eq_false_iff_not, Bool.and_eq_true, Bool.or_eq_true, Bool.and_eq_false_iff, Bool.or_eq_false_iff, Bool.not_eq_true', Bool.not_eq_false', beq_iff_eq, bne_iff_ne] at hc1
    refine CW.skip ?_
    refine thenE_norm (h2 _ _ ?_); clear h2; try clear K2
    refine CW.seq (fun K5 h5 => ?_)
    refine CW.region ?_
    refine r_move rfl ?_
    refine r_lenS rfl Try.underlying9 rfl ?_
    refine r_convI rfl Try.underlying3 Try.underlying5 rfl (wr_u8 (by omega) (by omega)) ?_
    refine r_buildSlice rfl Try.underlying23 Try.sizeOf5 Try.zeroValue5 rfl rfl rfl rfl ?_
    intro b3_3 w3_3 hb3_3 hs3_3 hE3_3 hB3_3
    have hB : Blk w3_3 b3_3 5 [.int .u8 s.size] := hB3_3
    refine r_move rfl ?_
    refine r_append rfl Try.underlying23 (.inr Try.underlying9) Try.type5 rfl rfl rfl rfl rfl rfl (Own.blk (n := 1) hB rfl (by decide) rfl) (Src.string s) (by simp [maxLen]; omega) (by show (1 + s.size) * 1 ≤ _; omega) ?_
    intro v3_5 w3_5 g3_5 hO3_5 hE3_5 hG3_5 hN3_5
    refine r_assign rfl ?_
    refine r_assign rfl ?_
    refine LW.nil ?_
    refine thenE_norm ?_
    refine cut (K := K5) [2, 3] (fun σ => ?_)
    simp only [setL, keepE, upd_get, ev, Nat.reduceEqDiff, ↓reduceIte]
    refine h5 _ _ ?_; clear h5; try clear K5
    refine CW.ret (ret2 Try.results19 (by simp only [upd_get, ev, Nat.reduceEqDiff, ↓reduceIte]; rfl) (by simp only [upd_get, ev, Nat.reduceEqDiff, ↓reduceIte]; rfl) ?_)
    rw [putTextM, if_pos (by omega)]
    have hS := hO3_5.sl
    refine ⟨_, rfl, ?_, hE3_3.transN hE3_5 (fun x hx => by cases hx; omega)⟩
    unfold Bs
    rw [show (UInt8.ofNat s.data.toList.length :: s.data.toList).length = 1 + s.size from by simp; omega,
      show (UInt8.ofNat s.data.toList.length :: s.data.toList).map u8v = [.int .u8 s.size] ++ s.data.toList.map u8v from by simp [u8v]; omega]
    refine hS.mono fun b _ h => ?_
    show w.heap.size ≤ b
    rcases hG3_5 b h with h | h
    · cases h; omega
    · omega

theorem ByteR_c {F : Nat → Prop} {v : Value} {xs : List UInt8} (at_ : Int) (w : World) (hv : Bs F w v xs) :
    Calls Try.prog 30 #[v, .int .i64 at_] w fun e w' => e = .returned (.tuple #[.int .i64 (byteM xs at_).1, .int .i64 (byteM xs at_).2.1, .int .i64 (byteM xs at_).2.2]) ∧ w = w' := by
  obtain ⟨ao, cap, rfl, hl, hm, hcell⟩ := hv.cell
  refine calls_of_CW Try.func30 rfl Try.ntmps30 (Nat.le_of_ble_eq_true rfl) ?_
  simp only [argE, argFrom, Nat.reduceAdd]
  refine CW.seq (fun K1 h1 => ?_)
  refine CW.region ?_
  refine r_assign rfl ?_
  refine r_assign rfl ?_
  refine r_assign rfl ?_
  refine LW.nil ?_
  refine thenE_norm (h1 _ _ ?_); clear h1; try clear K1
  refine CW.seq (fun K2 h2 => ?_)
  refine CW.seq (fun K3 h3 => ?_)
  refine CW.region ?_
  refine r_move rfl ?_
  refine r_move rfl ?_
  refine r_call rfl Try.call50 rfl (room_c at_ 1 _ hv (by decide)) ?_
  rintro _ w1 ⟨rfl, rfl⟩
  refine ⟨_, rfl, ?_⟩
  refine r_not rfl rfl ?_
  refine LW.nil ?_
  refine thenE_norm (h3 _ _ ?_); clear h3; try clear K3
  refine CW.cond rfl (fun hc1 => ?_) (fun hc1 => ?_)
  · try simp only [decide_eq_true_eq, decide_eq_false_iff_not, Bool.and_eq_true, Bool.or_eq_true, Bool.and_eq_false_iff, Bool.or_eq_false_iff, Bool.not_eq_true', Bool.not_eq_false', beq_iff_eq, bne_iff_ne] at hc1
    refine CW.seq (fun K4 h4 => ?_)
    refine CW.region ?_
    refine r_assign rfl ?_
    refine r_assign rfl ?_
    refine r_assign rfl ?_
    refine LW.nil ?_
    refine thenE_norm ?_
    refine cut (K := K4) [4, 5, 6] (fun σ => ?_)
    simp only [setL, keepE, upd_get, ev, Nat.reduceEqDiff, ↓reduceIte]
    refine h4 _ _ ?_; clear h4; try clear K4
    refine CW.ret (thenE_ret (ret3 Try.results30 (by simp only [upd_get, ev, Nat.reduceEqDiff, ↓reduceIte]; rfl) (by simp only [upd_get, ev, Nat.reduceEqDiff, ↓reduceIte]; rfl) (by simp only [upd_get, ev, Nat.reduceEqDiff, ↓reduceIte]; rfl) ?_))
    rw [byteM, if_neg hc1]
    exact ⟨rfl, rfl⟩
  · try simp only [decide_eq_true_eq, decide_eq_false_iff_not, Bool.and_eq_true, Bool.or_eq_true, Bool.and_eq_false_iff, Bool.or_eq_false_iff, Bool.not_eq_true', Bool.not_eq_false', beq_iff_eq, bne_iff_ne] at hc1
    refine CW.skip ?_
    refine thenE_norm (h2 _ _ ?_); clear h2; try clear K2
    refine CW.seq (fun K5 h5 => ?_)
    have hr := hc1
    unfold roomM at hr
    obtain ⟨b, o, rfl, -, hcl⟩ := hcell.resolve_left (by rintro rfl; simp at hr; omega)
    have hlt := UInt8.toNat_lt (xs.getD at_.toNat 0)
    refine CW.region ?_
    refine r_move rfl ?_
    refine r_move rfl ?_
    refine r_indexAddr rfl Try.underlying23 Try.sizeOf5 rfl rfl (by omega) (by omega) ?_
    refine r_load rfl Try.isAgg5 rfl (hcl at_.toNat (by omega)) ?_
    refine r_convI rfl Try.underlying5 Try.underlying3 rfl (wr_i64 (by omega) (by omega)) ?_
    refine r_move rfl ?_
    refine r_add rfl rfl rfl (wr_i64 (by omega) (by omega)) ?_
    refine r_assign rfl ?_
    refine r_assign rfl ?_
    refine r_assign rfl ?_
    refine LW.nil ?_
    refine thenE_norm ?_
    refine cut (K := K5) [4, 5, 6] (fun σ => ?_)
    simp only [setL, keepE, upd_get, ev, Nat.reduceEqDiff, ↓reduceIte]
    refine h5 _ _ ?_; clear h5; try clear K5
    refine CW.ret (ret3 Try.results30 (by simp only [upd_get, ev, Nat.reduceEqDiff, ↓reduceIte]; rfl) (by simp only [upd_get, ev, Nat.reduceEqDiff, ↓reduceIte]; rfl) (by simp only [upd_get, ev, Nat.reduceEqDiff, ↓reduceIte]; rfl) ?_)
    rw [byteM, if_pos hc1]
    exact ⟨rfl, rfl⟩

theorem TextR_c {F : Nat → Prop} {v : Value} {xs : List UInt8} (at_ most : Int) (w : World) (hv : Bs F w v xs) :
    Calls Try.prog 21 #[v, .int .i64 at_, .int .i64 most] w fun e w' => e = .returned (.tuple #[.string ⟨(textM xs at_ most).1.toArray⟩, .int .i64 (textM xs at_ most).2.1, .int .i64 (textM xs at_ most).2.2]) ∧ w = w' := by
  obtain ⟨ao, cap, rfl, hl, hm, hcell⟩ := hv.cell
  have hb0 : 0 ≤ (byteM xs at_).1 := by unfold byteM; split <;> simp
  have hb1 : (byteM xs at_).1 < 256 := by
    unfold byteM; split
    · have := UInt8.toNat_lt (xs.getD at_.toNat 0); simp only []; omega
    · decide
  have hcod : (byteM xs at_).2.2 = 0 ∨ (byteM xs at_).2.2 = 2 := by unfold byteM; split <;> simp
  have hpos : (byteM xs at_).2.2 = 0 → 0 ≤ at_ ∧ at_ < xs.length ∧ (byteM xs at_).2.1 = at_ + 1 := by
    unfold byteM; split
    · rename_i h; unfold roomM at h; intro _; exact ⟨h.1, by omega, rfl⟩
    · simp
  refine calls_of_CW Try.func21 rfl Try.ntmps21 (Nat.le_of_ble_eq_true rfl) ?_
  simp only [argE, argFrom, Nat.reduceAdd]
  refine CW.seq (fun K1 h1 => ?_)
  refine CW.region ?_
  refine r_assign rfl ?_
  refine r_assign rfl ?_
  refine r_assign rfl ?_
  refine LW.nil ?_
  refine thenE_norm (h1 _ _ ?_); clear h1; try clear K1
  refine CW.seq (fun K2 h2 => ?_)
  refine CW.region ?_
  refine r_move rfl ?_
  refine r_move rfl ?_
  refine r_call rfl Try.call30 rfl (ByteR_c at_ _ hv) ?_
  rintro _ w1 ⟨rfl, rfl⟩
  refine ⟨_, rfl, ?_⟩
  refine r_move rfl ?_
  refine r_extract rfl rfl rfl ?_
  refine r_extract rfl rfl rfl ?_
  refine r_extract rfl rfl rfl ?_
  refine r_assign rfl ?_
  refine r_assign rfl ?_
  refine r_assign rfl ?_
  refine LW.nil ?_
  refine thenE_norm ?_
  refine cut (K := K2) [0, 2, 9, 10, 11] (fun σ => ?_)
  simp only [setL, keepE, upd_get, ev, Nat.reduceEqDiff, ↓reduceIte]
  refine h2 _ _ ?_; clear h2; try clear K2
  refine CW.seq (fun K3 h3 => ?_)
  refine CW.seq (fun K4 h4 => ?_)
  refine CW.region ?_
  refine r_move rfl ?_
  refine r_neq rfl rfl rfl ?_
  refine LW.nil ?_
  refine thenE_norm (h4 _ _ ?_); clear h4; try clear K4
  refine CW.cond rfl (fun hc1 => ?_) (fun hc1 => ?_)
  · try simp only [decide_eq_true_eq, decide_eq_false_iff_not, Bool.and_eq_true, Bool.or_eq_true, Bool.and_eq_false_iff, Bool.or_eq_false_iff, Bool.not_eq_true', Bool.not_eq_false', beq_iff_eq, bne_iff_ne] at hc1
    refine CW.seq (fun K5 h5 => ?_)
    refine CW.region ?_
    refine r_move rfl ?_
    refine r_assign rfl ?_
    refine r_assign rfl ?_
    refine r_assign rfl ?_
    refine LW.nil ?_
    refine thenE_norm (h5 _ _ ?_); clear h5; try clear K5
    refine CW.ret (thenE_ret (ret3 Try.results21 (by simp only [upd_get, ev, Nat.reduceEqDiff, ↓reduceIte]; rfl) (by simp only [upd_get, ev, Nat.reduceEqDiff, ↓reduceIte]; rfl) (by simp only [upd_get, ev, Nat.reduceEqDiff, ↓reduceIte]; rfl) ?_))
    rw [textM, if_pos (by simpa using hc1)]
    refine ⟨?_, rfl⟩
    rcases hcod with h | h
    · exact absurd h (by simpa using hc1)
    · rw [h]; rfl
  · try simp only [decide_eq_true_eq, decide_eq_false_iff_not, Bool.and_eq_true, Bool.or_eq_true, Bool.and_eq_false_iff, Bool.or_eq_false_iff, Bool.not_eq_true', Bool.not_eq_false', beq_iff_eq, bne_iff_ne] at hc1
    have hz : (byteM xs at_).2.2 = 0 := by simpa using hc1
    obtain ⟨hp1, hp2, hp3⟩ := hpos hz
    refine CW.skip ?_
    refine thenE_norm (h3 _ _ ?_); clear h3; try clear K3
    refine CW.seq (fun K6 h6 => ?_)
    refine CW.seq (fun K7 h7 => ?_)
    refine CW.region ?_
    refine r_move rfl ?_
    refine r_move rfl ?_
    refine r_gtr rfl rfl rfl ?_
    refine LW.nil ?_
    refine thenE_norm (h7 _ _ ?_); clear h7; try clear K7
    refine CW.cond rfl (fun hc2 => ?_) (fun hc2 => ?_)
    · try simp only [decide_eq_true_eq, decide_eq_false_iff_not, Bool.and_eq_true, Bool.or_eq_true, Bool.and_eq_false_iff, Bool.or_eq_false_iff, Bool.not_eq_true', Bool.not_eq_false', beq_iff_eq, bne_iff_ne] at hc2
      refine CW.seq (fun K8 h8 => ?_)
      refine CW.region ?_
      refine r_assign rfl ?_
      refine r_assign rfl ?_
      refine r_assign rfl ?_
      refine LW.nil ?_
      refine thenE_norm ?_
      refine cut (K := K8) [6, 7, 8] (fun σ => ?_)
      simp only [setL, keepE, upd_get, ev, Nat.reduceEqDiff, ↓reduceIte]
      refine h8 _ _ ?_; clear h8; try clear K8
      refine CW.ret (thenE_ret (ret3 Try.results21 (by simp only [upd_get, ev, Nat.reduceEqDiff, ↓reduceIte]; rfl) (by simp only [upd_get, ev, Nat.reduceEqDiff, ↓reduceIte]; rfl) (by simp only [upd_get, ev, Nat.reduceEqDiff, ↓reduceIte]; rfl) ?_))
      rw [textM, if_neg (by simpa using hz), if_pos hc2]
      exact ⟨rfl, rfl⟩
    · try simp only [decide_eq_true_eq, decide_eq_false_iff_not, Bool.and_eq_true, Bool.or_eq_true, Bool.and_eq_false_iff, Bool.or_eq_false_iff, Bool.not_eq_true', Bool.not_eq_false', beq_iff_eq, bne_iff_ne] at hc2
      refine CW.skip ?_
      refine thenE_norm (h6 _ _ ?_); clear h6; try clear K6
      refine CW.seq (fun K9 h9 => ?_)
      refine CW.seq (fun K10 h10 => ?_)
      refine CW.region ?_
      refine r_move rfl ?_
      refine r_move rfl ?_
      refine r_move rfl ?_
      refine r_call rfl Try.call50 rfl (room_c _ _ _ hv hb0) ?_
      rintro _ w2 ⟨rfl, rfl⟩
      refine ⟨_, rfl, ?_⟩
      refine r_not rfl rfl ?_
      refine LW.nil ?_
      refine thenE_norm ?_
      refine cut (K := K10) [0, 9, 10, 29] (fun σ => ?_)
      simp only [setL, keepE, upd_get, ev, Nat.reduceEqDiff, ↓reduceIte]
      refine h10 _ _ ?_; clear h10; try clear K10
      refine CW.cond rfl (fun hc3 => ?_) (fun hc3 => ?_)
      · try simp only [decide_eq_true_eq, decide_eq_false_iff_not, Bool.and_eq_true, Bool.or_eq_true, Bool.and_eq_false_iff, Bool.or_eq_false_iff, Bool.not_eq_true', Bool.not_eq_false', beq_iff_eq, bne_iff_ne] at hc3
        refine CW.seq (fun K11 h11 => ?_)
        refine CW.region ?_
        refine r_assign rfl ?_
        refine r_assign rfl ?_
        refine r_assign rfl ?_
        refine LW.nil ?_
        refine thenE_norm (h11 _ _ ?_); clear h11; try clear K11
        refine CW.ret (thenE_ret (ret3 Try.results21 (by simp only [upd_get, ev, Nat.reduceEqDiff, ↓reduceIte]; rfl) (by simp only [upd_get, ev, Nat.reduceEqDiff, ↓reduceIte]; rfl) (by simp only [upd_get, ev, Nat.reduceEqDiff, ↓reduceIte]; rfl) ?_))
        rw [textM, if_neg (by simpa using hz), if_neg hc2, if_neg (by rw [← hp3]; exact hc3)]
        exact ⟨rfl, rfl⟩
      · try simp only [decide_eq_true_eq, decide_eq_false_iff_not, Bool.and_eq_true, Bool.or_eq_true, Bool.and_eq_false_iff, Bool.or_eq_false_iff, Bool.not_eq_true', Bool.not_eq_false', beq_iff_eq, bne_iff_ne] at hc3
        refine CW.skip ?_
        refine thenE_norm (h9 _ _ ?_); clear h9; try clear K9
        refine CW.seq (fun K12 h12 => ?_)
        have hr := hc3
        unfold roomM at hr
        refine CW.region ?_
        refine r_move rfl ?_
        refine r_move rfl ?_
        refine r_move rfl ?_
        refine r_move rfl ?_
        refine r_add rfl rfl rfl (wr_i64 (by omega) (by omega)) ?_
        refine r_sliceLH rfl Try.underlying23 Try.sizeOf5 rfl rfl rfl hv (by simp) (by omega) (by omega) (by omega) ?_
        intro v8_5 hv8_5
        refine r_b2s rfl Try.underlying23 Try.underlying5 Try.underlying9 rfl (xs := (xs.drop (at_.toNat + 1)).take (byteM xs at_).1.toNat) (by rw [hp3, show (at_ + 1 + (byteM xs at_).1).toNat - (at_ + 1).toNat = (byteM xs at_).1.toNat from by omega, show (at_ + 1).toNat = at_.toNat + 1 from by omega, Nat.mul_one, Nat.mul_one, ← List.map_drop, ← List.map_take] at hv8_5; exact hv8_5) (by simp; omega) ?_
        skip
        refine r_move rfl ?_
        refine r_move rfl ?_
        refine r_add rfl rfl rfl (wr_i64 (by omega) (by omega)) ?_
        refine r_assign rfl ?_
        refine r_assign rfl ?_
        refine r_assign rfl ?_
        refine LW.nil ?_
        refine thenE_norm ?_
        refine cut (K := K12) [6, 7, 8] (fun σ => ?_)
        simp only [setL, keepE, upd_get, ev, Nat.reduceEqDiff, ↓reduceIte]
        refine h12 _ _ ?_; clear h12; try clear K12
        refine CW.ret (ret3 Try.results21 (by simp only [upd_get, ev, Nat.reduceEqDiff, ↓reduceIte]; rfl) (by simp only [upd_get, ev, Nat.reduceEqDiff, ↓reduceIte]; rfl) (by simp only [upd_get, ev, Nat.reduceEqDiff, ↓reduceIte]; rfl) ?_)
        rw [textM, if_neg (by simpa using hz), if_neg hc2, if_pos (by rw [← hp3]; exact hc3)]
        exact ⟨by rw [hp3], rfl⟩

theorem NumR_c {F : Nat → Prop} {v : Value} {xs : List UInt8} (at_ : Int) (w : World) (hv : Bs F w v xs) :
    Calls Try.prog 26 #[v, .int .i64 at_] w fun e w' => e = .returned (.tuple #[.int .i64 (numM xs at_).1, .int .i64 (numM xs at_).2.1, .int .i64 (numM xs at_).2.2]) ∧ w = w' := by
  obtain ⟨ao, cap, rfl, hl, hm, hcell⟩ := hv.cell
  refine calls_of_CW Try.func26 rfl Try.ntmps26 (Nat.le_of_ble_eq_true rfl) ?_
  simp only [argE, argFrom, Nat.reduceAdd]
  refine CW.seq (fun K1 h1 => ?_)
  refine CW.region ?_
  refine r_assign rfl ?_
  refine r_assign rfl ?_
  refine r_assign rfl ?_
  refine LW.nil ?_
  refine thenE_norm (h1 _ _ ?_); clear h1; try clear K1
  refine CW.seq (fun K2 h2 => ?_)
  refine CW.seq (fun K3 h3 => ?_)
  refine CW.region ?_
  refine r_move rfl ?_
  refine r_move rfl ?_
  refine r_call rfl Try.call50 rfl (room_c at_ 8 _ hv (by decide)) ?_
  rintro _ w1 ⟨rfl, rfl⟩
  refine ⟨_, rfl, ?_⟩
  refine r_not rfl rfl ?_
  refine LW.nil ?_
  refine thenE_norm (h3 _ _ ?_); clear h3; try clear K3
  refine CW.cond rfl (fun hc1 => ?_) (fun hc1 => ?_)
  · try simp only [decide_eq_true_eq, decide_eq_false_iff_not, Bool.and_eq_true, Bool.or_eq_true, Bool.and_eq_false_iff, Bool.or_eq_false_iff, Bool.not_eq_true', Bool.not_eq_false', beq_iff_eq, bne_iff_ne] at hc1
    refine CW.seq (fun K4 h4 => ?_)
    refine CW.region ?_
    refine r_assign rfl ?_
    refine r_assign rfl ?_
    refine r_assign rfl ?_
    refine LW.nil ?_
    refine thenE_norm ?_
    refine cut (K := K4) [4, 5, 6] (fun σ => ?_)
    simp only [setL, keepE, upd_get, ev, Nat.reduceEqDiff, ↓reduceIte]
    refine h4 _ _ ?_; clear h4; try clear K4
    refine CW.ret (thenE_ret (ret3 Try.results26 (by simp only [upd_get, ev, Nat.reduceEqDiff, ↓reduceIte]; rfl) (by simp only [upd_get, ev, Nat.reduceEqDiff, ↓reduceIte]; rfl) (by simp only [upd_get, ev, Nat.reduceEqDiff, ↓reduceIte]; rfl) ?_))
    rw [numM, if_neg hc1]
    exact ⟨rfl, rfl⟩
  · try simp only [decide_eq_true_eq, decide_eq_false_iff_not, Bool.and_eq_true, Bool.or_eq_true, Bool.and_eq_false_iff, Bool.or_eq_false_iff, Bool.not_eq_true', Bool.not_eq_false', beq_iff_eq, bne_iff_ne] at hc1
    refine CW.skip ?_
    refine thenE_norm (h2 _ _ ?_); clear h2; try clear K2
    refine CW.seq (fun K5 h5 => ?_)
    refine CW.seq (fun K6 h6 => ?_)
    have hr := hc1
    unfold roomM at hr
    obtain ⟨b, o, rfl, -, hcl⟩ := hcell.resolve_left (by rintro rfl; simp at hr; omega)
    refine CW.region ?_
    refine r_move rfl ?_
    refine r_move rfl ?_
    refine r_indexAddr rfl Try.underlying23 Try.sizeOf5 rfl rfl (by omega) (by omega) ?_
    refine r_load rfl Try.isAgg5 rfl (hcl at_.toNat (by omega)) ?_
    refine r_geq rfl rfl rfl ?_
    refine LW.nil ?_
    refine thenE_norm ?_
    refine cut (K := K6) [0, 1, 17] (fun σ => ?_)
    simp only [setL, keepE, upd_get, ev, Nat.reduceEqDiff, ↓reduceIte]
    refine h6 _ _ ?_; clear h6; try clear K6
    refine CW.cond rfl (fun hc2 => ?_) (fun hc2 => ?_)
    · try simp only [decide_eq_true_eq, decide_eq_false_iff_not, Bool.and_eq_true, Bool.or_eq_true, Bool.and_eq_false_iff, Bool.or_eq_false_iff, Bool.not_eq_true', Bool.not_eq_false', beq_iff_eq, bne_iff_ne] at hc2
      refine CW.seq (fun K7 h7 => ?_)
      refine CW.region ?_
      refine r_assign rfl ?_
      refine r_assign rfl ?_
      refine r_assign rfl ?_
      refine LW.nil ?_
      refine thenE_norm (h7 _ _ ?_); clear h7; try clear K7
      refine CW.ret (thenE_ret (ret3 Try.results26 (by simp only [upd_get, ev, Nat.reduceEqDiff, ↓reduceIte]; rfl) (by simp only [upd_get, ev, Nat.reduceEqDiff, ↓reduceIte]; rfl) (by simp only [upd_get, ev, Nat.reduceEqDiff, ↓reduceIte]; rfl) ?_))
      rw [numM, if_pos hc1, if_neg (by omega)]
      exact ⟨rfl, rfl⟩
    · try simp only [decide_eq_true_eq, decide_eq_false_iff_not, Bool.and_eq_true, Bool.or_eq_true, Bool.and_eq_false_iff, Bool.or_eq_false_iff, Bool.not_eq_true', Bool.not_eq_false', beq_iff_eq, bne_iff_ne] at hc2
      refine CW.skip ?_
      refine thenE_norm (h5 _ _ ?_); clear h5; try clear K5
      refine CW.seq (fun K8 h8 => ?_)
      refine CW.region ?_
      refine r_assign rfl ?_
      refine LW.nil ?_
      refine thenE_norm (h8 _ _ ?_); clear h8; try clear K8
      refine CW.seq (fun K9 h9 => ?_)
      refine CW.seq (fun K10 h10 => ?_)
      refine CW.region ?_
      refine r_assign rfl ?_
      refine LW.nil ?_
      refine thenE_norm (h10 _ _ ?_); clear h10; try clear K10
      refine CW.block ?_
      refine CW.loopR [0, 1] [7, 8] (fun m vs w' => ∃ i : Int, vs = [.int .i64 (be ((xs.drop at_.toNat).take i.toNat)), .int .i64 i] ∧ 0 ≤ i ∧ i ≤ 8 ∧ m = (8 - i).toNat ∧ w = w') (8) ?_ ?_
      · exact ⟨0, rfl, by omega, by omega, rfl, rfl⟩
      rintro n1 vs1 wL1 σ ⟨i, rfl, hi0, hi8, rfl, rfl⟩
      simp only [setL, keepE, upd_get, ev, Nat.reduceEqDiff, ↓reduceIte]
      have hbl : be ((xs.drop at_.toNat).take i.toNat) < 64 * 256 ^ 6 ∨ i = 8 := by
        rcases Int.lt_or_le i 8 with h | h
        · refine .inl ?_
          have := first_lt' (xs.drop at_.toNat) i.toNat (by rw [List.getD_eq_getElem?_getD, List.getElem?_drop, Nat.add_zero, ← List.getD_eq_getElem?_getD]; omega) (by omega)
          exact this
        · exact .inr (by omega)
      refine CW.seq (fun K11 h11 => ?_)
      refine CW.seq (fun K12 h12 => ?_)
      refine CW.region ?_
      refine r_move rfl ?_
      refine r_lss rfl rfl rfl ?_
      refine LW.nil ?_
      refine thenE_norm (h12 _ _ ?_); clear h12; try clear K12
      refine CW.cond rfl (fun hc3 => ?_) (fun hc3 => ?_)
      · try simp only [decide_eq_true_eq, decide_eq_false_iff_not, Bool.and_eq_true, Bool.or_eq_true, Bool.and_eq_false_iff, Bool.or_eq_false_iff, Bool.not_eq_true', Bool.not_eq_false', beq_iff_eq, bne_iff_ne] at hc3
        refine CW.skip ?_
        refine thenE_norm (h11 _ _ ?_); clear h11; try clear K11
        refine CW.seq (fun K13 h13 => ?_)
        refine CW.block ?_
        have hl9 : w.cell? ⟨b, o + (at_ + i).toNat * 1, none⟩ = some (.int .u8 (xs.getD (at_.toNat + i.toNat) 0).toNat) := by
          rw [show (at_ + i).toNat = at_.toNat + i.toNat from by omega]; exact hcl (at_.toNat + i.toNat) (by omega)
        have hu9 := UInt8.toNat_lt (xs.getD (at_.toNat + i.toNat) 0)
        refine CW.region ?_
        refine r_move rfl ?_
        refine r_shl rfl rfl rfl (by omega) (by simp [IntKind.bits]) ?_
        refine r_move rfl ?_
        refine r_move rfl ?_
        refine r_move rfl ?_
        refine r_add rfl rfl rfl (wr_i64 (by omega) (by omega)) ?_
        refine r_indexAddr rfl Try.underlying23 Try.sizeOf5 rfl rfl (by omega) (by omega) ?_
        refine r_load rfl Try.isAgg5 rfl hl9 ?_
        refine r_convI rfl Try.underlying5 Try.underlying3 rfl (wr_i64 (by omega) (by omega)) ?_
        refine r_or rfl rfl rfl (be_orI _ _ (by omega)) ?_
        refine r_assign rfl ?_
        refine LW.nil ?_
        refine blockE_norm ?_
        refine thenE_norm (h13 _ _ ?_); clear h13; try clear K13
        refine CW.region ?_
        refine r_move rfl ?_
        refine r_add rfl rfl rfl (wr_i64 (by omega) (by omega)) ?_
        refine r_assign rfl ?_
        refine LW.nil ?_
        refine thenE_norm ⟨rfl, ?_⟩
        exact ⟨_, by omega, i + 1, by rw [be_step xs at_.toNat i.toNat (by omega), show i.toNat + 1 = (i + 1).toNat from by omega]; rfl, by omega, by omega, rfl, rfl⟩
      · try simp only [decide_eq_true_eq, decide_eq_false_iff_not, Bool.and_eq_true, Bool.or_eq_true, Bool.and_eq_false_iff, Bool.or_eq_false_iff, Bool.not_eq_true', Bool.not_eq_false', beq_iff_eq, bne_iff_ne] at hc3
        refine CW.exit (thenE_exit (thenE_exit (blockE_hit ?_)))
        refine thenE_norm (h9 _ _ ?_); clear h9; try clear K9
        refine CW.seq (fun K14 h14 => ?_)
        refine CW.region ?_
        refine r_move rfl ?_
        refine r_move rfl ?_
        refine r_add rfl rfl rfl (wr_i64 (by omega) (by omega)) ?_
        refine r_assign rfl ?_
        refine r_assign rfl ?_
        refine r_assign rfl ?_
        refine LW.nil ?_
        refine thenE_norm ?_
        refine cut (K := K14) [4, 5, 6] (fun σ => ?_)
        simp only [setL, keepE, upd_get, ev, Nat.reduceEqDiff, ↓reduceIte]
        refine h14 _ _ ?_; clear h14; try clear K14
        refine CW.ret (ret3 Try.results26 (by simp only [upd_get, ev, Nat.reduceEqDiff, ↓reduceIte]; rfl) (by simp only [upd_get, ev, Nat.reduceEqDiff, ↓reduceIte]; rfl) (by simp only [upd_get, ev, Nat.reduceEqDiff, ↓reduceIte]; rfl) ?_)
        have hi : i = 8 := by omega
        subst hi
        rw [numM, if_pos hc1, if_pos (by omega)]
        exact ⟨rfl, rfl⟩
end Go.Proofs.Ytgcmafgcigipdaa
