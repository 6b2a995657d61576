/-
  The walks of layer 1's functions, and of the document's: what each computes is what the plain functions say.
-/
import Derived.Test.YtgcmafgcigipdaaVMOctet
import Derived.Test.YtgcmafgcigipdaaChecked
namespace Go.Proofs.Ytgcmafgcigipdaa
set_option linter.unusedSimpArgs false
set_option linter.unusedVariables false
set_option maxRecDepth 20000
open Go.V Go.RowKit

theorem PutNum_err (n : Int) (w : World) (h : n < 0 ∨ 4611686018427387904 ≤ n) :
    Calls Try.prog 16 #[.int .i64 n] w fun e w' => e = .returned (.tuple #[.slice none 0 0, .int .i64 1]) ∧ w = w' := by
  refine calls_of_CW Try.func16 rfl Try.ntmps16 (Nat.le_of_ble_eq_true rfl) ?_
  simp only [argE, argFrom, Nat.reduceAdd]
  refine CW.seq (fun K1 h1 => ?_)
  refine CW.region ?_
  refine r_assign rfl ?_
  refine r_assign rfl ?_
  refine LW.nil ?_
  refine thenE_norm (h1 _ _ ?_); clear h1; try clear K1
  refine CW.seq (fun K2 h2 => ?_)
  refine CW.seq (fun K3 h3 => ?_)
  refine CW.region ?_
  refine r_move rfl ?_
  refine r_lss rfl rfl rfl ?_
  refine r_move rfl ?_
  refine' LW.grpOr (n := 3) (ts := [0]) (d := 11) (tj := 8) rfl (fun hg1_3 => ?_) (fun hg1_3 => ?_) (fun σ => ?_)
  rotate_left
  · simp only [List.take_succ_cons, List.take_zero]
    have hg1_3P := hg1_3
    try simp only [decide_eq_true_eq, decide_eq_false_iff_not, Bool.and_eq_true, Bool.or_eq_true, Bool.and_eq_false_iff, Bool.or_eq_false_iff, Bool.not_eq_true', Bool.not_eq_false', beq_iff_eq, bne_iff_ne] at hg1_3P
    refine LW.want rfl rfl hg1_3 ?_
    refine r_move rfl ?_
    refine LW.want rfl rfl hg1_3 ?_
    refine r_geq rfl rfl rfl ?_
    refine r_pickF rfl rfl hg1_3 ?_
    refine LW.nil (thenE_norm ⟨rfl, rfl, rfl⟩)
  · simp only [List.take_succ_cons, List.take_zero]
    refine LW.skip rfl (fun _ e => by cases e; decide) rfl hg1_3 ?_
    refine LW.skip rfl (fun _ e => by cases e; decide) rfl hg1_3 ?_
    refine r_pickT rfl rfl hg1_3 ?_
    refine LW.nil (thenE_norm ⟨rfl, rfl, rfl⟩)
  simp only [setL, keepE, upd_get, ev, Nat.reduceEqDiff, ↓reduceIte]; simp only [List.drop_succ_cons, List.drop_zero]
  refine LW.nil ?_
  refine thenE_norm (h3 _ _ ?_); clear h3; try clear K3
  refine CW.condT rfl (by simp; omega) ?_
  refine CW.seq (fun K4 h4 => ?_)
  refine CW.region ?_
  refine r_assign rfl ?_
  refine r_assign rfl ?_
  refine LW.nil ?_
  refine thenE_norm (h4 _ _ ?_); clear h4; try clear K4
  refine CW.ret (thenE_ret (ret2 Try.results16 (by simp only [upd_get, ev, Nat.reduceEqDiff, ↓reduceIte]; rfl) (by simp only [upd_get, ev, Nat.reduceEqDiff, ↓reduceIte]; rfl) ?_))
  exact ⟨rfl, rfl⟩

theorem PutNum_ok (n : Int) (w : World) (h0 : 0 ≤ n) (h1 : n < 4611686018427387904) :
    Calls Try.prog 16 #[.int .i64 n] w fun e w' => ∃ v, e = .returned (.tuple #[v, .int .i64 0]) ∧ Bs (New w) w' v (eight n.toNat) ∧ Ext0 w w' := by
  refine calls_of_CW Try.func16 rfl Try.ntmps16 (Nat.le_of_ble_eq_true rfl) ?_
  simp only [argE, argFrom, Nat.reduceAdd]
  refine CW.seq (fun K1 h1 => ?_)
  refine CW.region ?_
  refine r_assign rfl ?_
  refine r_assign rfl ?_
  refine LW.nil ?_
  refine thenE_norm (h1 _ _ ?_); clear h1; try clear K1
  refine CW.seq (fun K2 h2 => ?_)
  refine CW.seq (fun K3 h3 => ?_)
  refine CW.region ?_
  refine r_move rfl ?_
  refine r_lss rfl rfl rfl ?_
  refine r_move rfl ?_
  refine' LW.grpOr (n := 3) (ts := [0]) (d := 11) (tj := 8) rfl (fun hg1_3 => ?_) (fun hg1_3 => ?_) (fun σ => ?_)
  rotate_left
  · simp only [List.take_succ_cons, List.take_zero]
    have hg1_3P := hg1_3
    try simp only [decide_eq_true_eq, decide_eq_false_iff_not, Bool.and_eq_true, Bool.or_eq_true, Bool.and_eq_false_iff, Bool.or_eq_false_iff, Bool.not_eq_true', Bool.not_eq_false', beq_iff_eq, bne_iff_ne] at hg1_3P
    refine LW.want rfl rfl hg1_3 ?_
    refine r_move rfl ?_
    refine LW.want rfl rfl hg1_3 ?_
    refine r_geq rfl rfl rfl ?_
    refine r_pickF rfl rfl hg1_3 ?_
    refine LW.nil (thenE_norm ⟨rfl, rfl, rfl⟩)
  · simp only [List.take_succ_cons, List.take_zero]
    refine LW.skip rfl (fun _ e => by cases e; decide) rfl hg1_3 ?_
    refine LW.skip rfl (fun _ e => by cases e; decide) rfl hg1_3 ?_
    refine r_pickT rfl rfl hg1_3 ?_
    refine LW.nil (thenE_norm ⟨rfl, rfl, rfl⟩)
  simp only [setL, keepE, upd_get, ev, Nat.reduceEqDiff, ↓reduceIte]; simp only [List.drop_succ_cons, List.drop_zero]
  refine LW.nil ?_
  refine thenE_norm (h3 _ _ ?_); clear h3; try clear K3
  refine CW.condF rfl (by simp; omega) ?_
  refine CW.skip ?_
  refine thenE_norm (h2 _ _ ?_); clear h2; try clear K2
  refine CW.seq (fun K4 h4 => ?_)
  refine CW.region ?_
  refine r_make rfl Try.underlying23 Try.type5 rfl rfl rfl rfl rfl (by decide) (by decide) (by decide) (by decide) ?_
  intro b3_0 w3_0 hb3_0 hs3_0 hE3_0 hB3_0
  refine r_assign rfl ?_
  refine LW.nil ?_
  refine thenE_norm (h4 _ _ ?_); clear h4; try clear K4
  refine CW.seq (fun K5 h5 => ?_)
  refine CW.seq (fun K6 h6 => ?_)
  refine CW.region ?_
  refine r_move rfl ?_
  refine r_len rfl Try.underlying23 rfl ?_
  refine r_move rfl ?_
  refine LW.nil ?_
  refine thenE_norm (h6 _ _ ?_); clear h6; try clear K6
  refine CW.block ?_
  refine CW.loopR [0, 4, 14] [15] (fun m vs w' => ∃ i : Int, vs = [.int .i64 i] ∧ 0 ≤ i ∧ i ≤ 8 ∧ m = (8 - i).toNat ∧ Blk w' b3_0 5 (pn n.toNat i.toNat) ∧ Ext0 w w') (8) ?_ ?_
  · exact ⟨0, rfl, by omega, by omega, rfl, by rw [show (0 : Int).toNat = 0 from rfl, pn_zero]; exact hB3_0, hE3_0⟩
  rintro n1 vs1 wL1 σ ⟨i, rfl, hi0, hi8, rfl, hB, hE⟩
  simp only [setL, keepE, upd_get, ev, Nat.reduceEqDiff, ↓reduceIte]
  refine CW.seq (fun K7 h7 => ?_)
  refine CW.region ?_
  refine r_lss rfl rfl rfl ?_
  refine LW.nil ?_
  refine thenE_norm (h7 _ _ ?_); clear h7; try clear K7
  refine CW.seq (fun K8 h8 => ?_)
  refine CW.cond rfl (fun hc2 => ?_) (fun hc2 => ?_)
  · try simp only [decide_eq_true_eq, decide_eq_false_iff_not, Bool.and_eq_true, Bool.or_eq_true, Bool.and_eq_false_iff, Bool.or_eq_false_iff, Bool.not_eq_true', Bool.not_eq_false', beq_iff_eq, bne_iff_ne] at hc2
    refine CW.skip ?_
    refine thenE_norm (h8 _ _ ?_); clear h8; try clear K8
    refine CW.seq (fun K9 h9 => ?_)
    refine CW.block ?_
    refine CW.seq (fun K10 h10 => ?_)
    refine CW.region ?_
    refine r_move rfl ?_
    refine r_assign rfl ?_
    refine LW.nil ?_
    refine thenE_norm (h10 _ _ ?_); clear h10; try clear K10
    refine CW.region ?_
    refine r_move rfl ?_
    refine r_move rfl ?_
    refine r_move rfl ?_
    refine r_move rfl ?_
    refine r_sub rfl rfl rfl (wr_i64 (by omega) (by omega)) ?_
    refine r_mul rfl rfl rfl (wr_i64 (by omega) (by omega)) ?_
    refine r_shr rfl rfl rfl (by omega) (by simp [IntKind.bits]; omega) ?_
    refine r_convIw rfl Try.underlying3 Try.underlying5 rfl ?_
    refine r_indexAddr rfl Try.underlying23 Try.sizeOf5 rfl rfl hi0 (by omega) ?_
    refine r_store Try.sizeOf5 rfl (by simp only [upd_get, ev, Nat.reduceEqDiff, ↓reduceIte] <;> rfl) rfl hB (by rw [pn_len]; omega) ?_
    intro w7_9 hs7_9 hE7_9 hB7_9
    try simp only [Nat.zero_add, Nat.mul_one] at hB7_9
    refine LW.nil ?_
    refine blockE_norm ?_
    refine thenE_norm (h9 _ _ ?_); clear h9; try clear K9
    refine CW.region ?_
    refine r_add rfl rfl rfl (wr_i64 (by omega) (by omega)) ?_
    refine r_move rfl ?_
    refine LW.nil ?_
    refine thenE_norm ⟨rfl, ?_⟩
    exact ⟨_, by omega, i + 1, rfl, by omega, by omega, rfl, by rw [pn_set _ _ (by omega) _ (byte_at n i h0 hi0 (by omega))] at hB7_9; rw [show (i + 1).toNat = i.toNat + 1 from by omega]; exact hB7_9, hE.transN hE7_9 (fun x hx => by subst hx; omega)⟩
  · try simp only [decide_eq_true_eq, decide_eq_false_iff_not, Bool.and_eq_true, Bool.or_eq_true, Bool.and_eq_false_iff, Bool.or_eq_false_iff, Bool.not_eq_true', Bool.not_eq_false', beq_iff_eq, bne_iff_ne] at hc2
    refine CW.exit (thenE_exit (thenE_exit (blockE_hit ?_)))
    refine thenE_norm (h5 _ _ ?_); clear h5; try clear K5
    refine CW.seq (fun K11 h11 => ?_)
    refine CW.region ?_
    refine r_move rfl ?_
    refine r_assign rfl ?_
    refine r_assign rfl ?_
    refine LW.nil ?_
    refine thenE_norm (h11 _ _ ?_); clear h11; try clear K11
    refine CW.ret (ret2 Try.results16 (by simp only [upd_get, ev, Nat.reduceEqDiff, ↓reduceIte]; rfl) (by simp only [upd_get, ev, Nat.reduceEqDiff, ↓reduceIte]; rfl) ?_)
    have hi : i = 8 := by omega
    subst hi
    rw [show (8 : Int).toNat = 8 from rfl, pn_eight] at hB
    exact ⟨_, rfl, Bs.ofBlk hB (by show w.heap.size ≤ b3_0; omega) (eight_len _).symm (by decide) (by decide), hE⟩

theorem PutNum_c (n : Int) (w : World) :
    Calls Try.prog 16 #[.int .i64 n] w fun e w' => ∃ v, e = .returned (.tuple #[v, .int .i64 (putNumM n).2]) ∧ Bs (New w) w' v (putNumM n).1 ∧ Ext0 w w' := by
  by_cases h : 0 ≤ n ∧ n < 4611686018427387904
  · refine (PutNum_ok n w h.1 h.2).mono fun e w' => ?_
    simp only [putNumM, if_pos h]
    exact id
  · refine (PutNum_err n w (by omega)).mono fun e w' => ?_
    simp only [putNumM, if_neg h]
    rintro ⟨rfl, rfl⟩
    exact ⟨_, rfl, Bs.nil, Ext.refl _ _⟩

theorem Eight_c (n : Int) (w : World) (h0 : 0 ≤ n) (h1 : n < 9223372036854775808) :
    Calls Try.prog 52 #[.int .i64 n] w fun e w' => ∃ v, e = .returned v ∧ Bs (New w) w' v (eight n.toNat) ∧ Ext0 w w' := by
  refine calls_of_CW Try.func52 rfl Try.ntmps52 (Nat.le_of_ble_eq_true rfl) ?_
  simp only [argE, argFrom, Nat.reduceAdd]
  refine CW.seq (fun K1 h1 => ?_)
  refine CW.region ?_
  refine r_assign rfl ?_
  refine LW.nil ?_
  refine thenE_norm (h1 _ _ ?_); clear h1; try clear K1
  refine CW.seq (fun K2 h2 => ?_)
  refine CW.region ?_
  refine r_make rfl Try.underlying23 Try.type5 rfl rfl rfl rfl rfl (by decide) (by decide) (by decide) (by decide) ?_
  intro b1_0 w1_0 hb1_0 hs1_0 hE1_0 hB1_0
  refine r_assign rfl ?_
  refine LW.nil ?_
  refine thenE_norm (h2 _ _ ?_); clear h2; try clear K2
  refine CW.seq (fun K3 h3 => ?_)
  refine CW.seq (fun K4 h4 => ?_)
  refine CW.region ?_
  refine r_assign rfl ?_
  refine LW.nil ?_
  refine thenE_norm (h4 _ _ ?_); clear h4; try clear K4
  refine CW.block ?_
  refine CW.loopR [3] [0, 4] (fun m vs w' => ∃ i : Int, vs = [.int .i64 (n / 256 ^ (7 - i.toNat) * (if i < 0 then 0 else 1) + (if i < 0 then n / 256 ^ 8 else 0)), .int .i64 i] ∧ -1 ≤ i ∧ i ≤ 7 ∧ m = (i + 1).toNat ∧ Blk w' b1_0 5 (pe n.toNat (i + 1).toNat) ∧ Ext0 w w') (8) ?_ ?_
  · exact ⟨7, by simp [upd, ev], by omega, by omega, rfl, by rw [show ((7 : Int) + 1).toNat = 8 from rfl, pe_eight]; exact hB1_0, hE1_0⟩
  rintro n1 vs1 wL1 σ ⟨i, rfl, hi0, hi8, rfl, hB, hE⟩
  simp only [setL, keepE, upd_get, ev, Nat.reduceEqDiff, ↓reduceIte]
  refine CW.seq (fun K5 h5 => ?_)
  refine CW.seq (fun K6 h6 => ?_)
  refine CW.region ?_
  refine r_move rfl ?_
  refine r_geq rfl rfl rfl ?_
  refine LW.nil ?_
  refine thenE_norm (h6 _ _ ?_); clear h6; try clear K6
  refine CW.cond rfl (fun hc1 => ?_) (fun hc1 => ?_)
  · try simp only [decide_eq_true_eq, decide_eq_false_iff_not, Bool.and_eq_true, Bool.or_eq_true, Bool.and_eq_false_iff, Bool.or_eq_false_iff, Bool.not_eq_true', Bool.not_eq_false', beq_iff_eq, bne_iff_ne] at hc1
    refine CW.skip ?_
    refine thenE_norm (h5 _ _ ?_); clear h5; try clear K5
    refine CW.seq (fun K7 h7 => ?_)
    refine CW.block ?_
    refine CW.seq (fun K8 h8 => ?_)
    refine CW.region ?_
    refine r_move rfl ?_
    refine r_move rfl ?_
    refine r_move rfl ?_
    refine r_convIw rfl Try.underlying3 Try.underlying5 rfl ?_
    refine r_indexAddr rfl Try.underlying23 Try.sizeOf5 rfl rfl (by omega) (by omega) ?_
    refine r_store Try.sizeOf5 rfl (by simp only [upd_get, ev, Nat.reduceEqDiff, ↓reduceIte] <;> rfl) rfl hB (by rw [pe_len]; omega) ?_
    intro w5_5 hs5_5 hE5_5 hB5_5
    try simp only [Nat.zero_add, Nat.mul_one] at hB5_5
    refine LW.nil ?_
    refine thenE_norm ?_
    refine cut (K := K8) [0, 3, 4] (fun σ => ?_)
    simp only [setL, keepE, upd_get, ev, Nat.reduceEqDiff, ↓reduceIte]
    refine h8 _ _ ?_; clear h8; try clear K8
    refine CW.region ?_
    refine r_move rfl ?_
    refine r_shr rfl rfl rfl (by omega) (by simp [IntKind.bits]) ?_
    refine r_assign rfl ?_
    refine LW.nil ?_
    refine blockE_norm ?_
    refine thenE_norm (h7 _ _ ?_); clear h7; try clear K7
    have hnext : (n / 256 ^ (7 - i.toNat) * (if i < 0 then 0 else 1) + (if i < 0 then n / 256 ^ 8 else 0)) / 2 ^ (8 : Int).toNat = (n / 256 ^ (7 - (i - 1).toNat) * (if i - 1 < 0 then 0 else 1) + (if i - 1 < 0 then n / 256 ^ 8 else 0)) := by
      rw [if_neg (by omega), if_neg (by omega), Int.mul_one, Int.add_zero, shr_step n i (by omega) (by omega)]
      by_cases hz : i = 0
      · subst hz; simp
      · rw [if_neg (by omega), if_neg (by omega), Int.mul_one, Int.add_zero, show 8 - i.toNat = 7 - (i - 1).toNat from by omega]
    refine CW.region ?_
    refine r_move rfl ?_
    refine r_sub rfl rfl rfl (wr_i64 (by omega) (by omega)) ?_
    refine r_assign rfl ?_
    refine LW.nil ?_
    refine thenE_norm ⟨rfl, ?_⟩
    exact ⟨_, by omega, i - 1, by rw [← hnext]; rfl, by omega, by omega, rfl, by rw [show (i + 1).toNat = i.toNat + 1 from by omega, pe_set _ _ (by omega) _ (byte_sh n _ i h0 (by omega) (by omega) (by rw [if_neg (by omega), if_neg (by omega)]; omega))] at hB5_5; rw [show (i - 1 + 1).toNat = i.toNat from by omega]; exact hB5_5, hE.transN hE5_5 (fun x hx => by subst hx; omega)⟩
  · try simp only [decide_eq_true_eq, decide_eq_false_iff_not, Bool.and_eq_true, Bool.or_eq_true, Bool.and_eq_false_iff, Bool.or_eq_false_iff, Bool.not_eq_true', Bool.not_eq_false', beq_iff_eq, bne_iff_ne] at hc1
    refine CW.exit (thenE_exit (thenE_exit (blockE_hit ?_)))
    refine thenE_norm (h3 _ _ ?_); clear h3; try clear K3
    refine CW.seq (fun K9 h9 => ?_)
    refine CW.region ?_
    refine r_move rfl ?_
    refine r_assign rfl ?_
    refine LW.nil ?_
    refine thenE_norm (h9 _ _ ?_); clear h9; try clear K9
    refine CW.ret (ret1 Try.results52 (by simp only [upd_get, ev, Nat.reduceEqDiff, ↓reduceIte]; rfl) ?_)
    have hi : i = -1 := by omega
    subst hi
    rw [show ((-1 : Int) + 1).toNat = 0 from rfl, pe_zero] at hB
    exact ⟨_, rfl, Bs.ofBlk hB (by show w.heap.size ≤ b1_0; omega) (eight_len _).symm (by decide) (by decide), hE⟩

theorem End_c {F : Nat → Prop} {v : Value} {xs : List UInt8} (at_ : Int) (w : World) (hv : Bs F w v xs) :
    Calls Try.prog 22 #[v, .int .i64 at_] w fun e w' => e = .returned (.int .i64 (endM xs at_)) ∧ w = w' := by
  obtain ⟨ao, cap, rfl, -, -, -⟩ := hv
  refine calls_of_CW Try.func22 rfl Try.ntmps22 (Nat.le_of_ble_eq_true rfl) ?_
  simp only [argE, argFrom, Nat.reduceAdd]
  refine CW.seq (fun K1 h1 => ?_)
  refine CW.region ?_
  refine r_assign rfl ?_
  refine LW.nil ?_
  refine thenE_norm (h1 _ _ ?_); clear h1; try clear K1
  refine CW.seq (fun K2 h2 => ?_)
  refine CW.block ?_
  refine CW.seq (fun K3 h3 => ?_)
  refine CW.region ?_
  refine r_move rfl ?_
  refine r_lss rfl rfl rfl ?_
  refine r_move rfl ?_
  refine' LW.grpOr (n := 5) (ts := [0, 1]) (d := 13) (tj := 8) rfl (fun hg1_3 => ?_) (fun hg1_3 => ?_) (fun σ => ?_)
  rotate_left
  · simp only [List.take_succ_cons, List.take_zero]
    have hg1_3P := hg1_3
    try simp only [decide_eq_true_eq, decide_eq_false_iff_not, Bool.and_eq_true, Bool.or_eq_true, Bool.and_eq_false_iff, Bool.or_eq_false_iff, Bool.not_eq_true', Bool.not_eq_false', beq_iff_eq, bne_iff_ne] at hg1_3P
    refine LW.want rfl rfl hg1_3 ?_
    refine r_move rfl ?_
    refine LW.want rfl rfl hg1_3 ?_
    refine r_move rfl ?_
    refine LW.want rfl rfl hg1_3 ?_
    refine r_len rfl Try.underlying23 rfl ?_
    refine LW.want rfl rfl hg1_3 ?_
    refine r_gtr rfl rfl rfl ?_
    refine r_pickF rfl rfl hg1_3 ?_
    refine LW.nil (thenE_norm ⟨rfl, rfl, rfl⟩)
  · simp only [List.take_succ_cons, List.take_zero]
    refine LW.skip rfl (fun _ e => by cases e; decide) rfl hg1_3 ?_
    refine LW.skip rfl (fun _ e => by cases e; decide) rfl hg1_3 ?_
    refine LW.skip rfl (fun _ e => by cases e; decide) rfl hg1_3 ?_
    refine LW.skip rfl (fun _ e => by cases e; decide) rfl hg1_3 ?_
    refine r_pickT rfl rfl hg1_3 ?_
    refine LW.nil (thenE_norm ⟨rfl, rfl, rfl⟩)
  simp only [setL, keepE, upd_get, ev, Nat.reduceEqDiff, ↓reduceIte]; simp only [List.drop_succ_cons, List.drop_zero]
  refine r_assign rfl ?_
  refine LW.nil ?_
  refine thenE_norm (h3 _ _ ?_); clear h3; try clear K3
  refine CW.cond rfl (fun hc1 => ?_) (fun hc1 => ?_)
  · try simp only [decide_eq_true_eq, decide_eq_false_iff_not, Bool.and_eq_true, Bool.or_eq_true, Bool.and_eq_false_iff, Bool.or_eq_false_iff, Bool.not_eq_true', Bool.not_eq_false', beq_iff_eq, bne_iff_ne] at hc1
    refine CW.seq (fun K4 h4 => ?_)
    refine CW.region ?_
    refine r_assign rfl ?_
    refine LW.nil ?_
    refine thenE_norm (h4 _ _ ?_); clear h4; try clear K4
    refine CW.ret (blockE_ret (thenE_ret (ret1 Try.results22 (by simp only [upd_get, ev, Nat.reduceEqDiff, ↓reduceIte]; rfl) ?_)))
    exact ⟨by rw [endM, if_pos hc1], rfl⟩
  · try simp only [decide_eq_true_eq, decide_eq_false_iff_not, Bool.and_eq_true, Bool.or_eq_true, Bool.and_eq_false_iff, Bool.or_eq_false_iff, Bool.not_eq_true', Bool.not_eq_false', beq_iff_eq, bne_iff_ne] at hc1
    refine CW.seq (fun K5 h5 => ?_)
    refine CW.region ?_
    refine r_move rfl ?_
    refine r_move rfl ?_
    refine r_len rfl Try.underlying23 rfl ?_
    refine r_lss rfl rfl rfl ?_
    refine r_assign rfl ?_
    refine LW.nil ?_
    refine thenE_norm (h5 _ _ ?_); clear h5; try clear K5
    refine CW.cond rfl (fun hc2 => ?_) (fun hc2 => ?_)
    · try simp only [decide_eq_true_eq, decide_eq_false_iff_not, Bool.and_eq_true, Bool.or_eq_true, Bool.and_eq_false_iff, Bool.or_eq_false_iff, Bool.not_eq_true', Bool.not_eq_false', beq_iff_eq, bne_iff_ne] at hc2
      refine CW.seq (fun K6 h6 => ?_)
      refine CW.region ?_
      refine r_assign rfl ?_
      refine LW.nil ?_
      refine thenE_norm (h6 _ _ ?_); clear h6; try clear K6
      refine CW.ret (blockE_ret (thenE_ret (ret1 Try.results22 (by simp only [upd_get, ev, Nat.reduceEqDiff, ↓reduceIte]; rfl) ?_)))
      exact ⟨by rw [endM, if_neg (by omega), if_pos hc2], rfl⟩
    · try simp only [decide_eq_true_eq, decide_eq_false_iff_not, Bool.and_eq_true, Bool.or_eq_true, Bool.and_eq_false_iff, Bool.or_eq_false_iff, Bool.not_eq_true', Bool.not_eq_false', beq_iff_eq, bne_iff_ne] at hc2
      refine CW.skip ?_
      refine blockE_norm ?_
      refine thenE_norm (h2 _ _ ?_); clear h2; try clear K2
      refine CW.seq (fun K7 h7 => ?_)
      refine CW.region ?_
      refine r_assign rfl ?_
      refine LW.nil ?_
      refine thenE_norm (h7 _ _ ?_); clear h7; try clear K7
      refine CW.ret (ret1 Try.results22 (by simp only [upd_get, ev, Nat.reduceEqDiff, ↓reduceIte]; rfl) ?_)
      exact ⟨by rw [endM, if_neg (by omega), if_neg (by omega)], rfl⟩

theorem EndR_c {F : Nat → Prop} {v : Value} {xs : List UInt8} (at_ : Int) (w : World) (hv : Bs F w v xs) :
    Calls Try.prog 23 #[v, .int .i64 at_] w fun e w' => e = .returned (.int .i64 (endM xs at_)) ∧ w = w' := by
  obtain ⟨ao, cap, rfl, -, -, -⟩ := hv
  refine calls_of_CW Try.func23 rfl Try.ntmps23 (Nat.le_of_ble_eq_true rfl) ?_
  simp only [argE, argFrom, Nat.reduceAdd]
  refine CW.seq (fun K1 h1 => ?_)
  refine CW.region ?_
  refine r_assign rfl ?_
  refine LW.nil ?_
  refine thenE_norm (h1 _ _ ?_); clear h1; try clear K1
  refine CW.seq (fun K2 h2 => ?_)
  refine CW.seq (fun K3 h3 => ?_)
  refine CW.region ?_
  refine r_move rfl ?_
  refine r_lss rfl rfl rfl ?_
  refine r_move rfl ?_
  refine' LW.grpOr (n := 5) (ts := [0, 1]) (d := 12) (tj := 7) rfl (fun hg1_3 => ?_) (fun hg1_3 => ?_) (fun σ => ?_)
  rotate_left
  · simp only [List.take_succ_cons, List.take_zero]
    have hg1_3P := hg1_3
    try simp only [decide_eq_true_eq, decide_eq_false_iff_not, Bool.and_eq_true, Bool.or_eq_true, Bool.and_eq_false_iff, Bool.or_eq_false_iff, Bool.not_eq_true', Bool.not_eq_false', beq_iff_eq, bne_iff_ne] at hg1_3P
    refine LW.want rfl rfl hg1_3 ?_
    refine r_move rfl ?_
    refine LW.want rfl rfl hg1_3 ?_
    refine r_move rfl ?_
    refine LW.want rfl rfl hg1_3 ?_
    refine r_len rfl Try.underlying23 rfl ?_
    refine LW.want rfl rfl hg1_3 ?_
    refine r_gtr rfl rfl rfl ?_
    refine r_pickF rfl rfl hg1_3 ?_
    refine LW.nil (thenE_norm ⟨rfl, rfl, rfl⟩)
  · simp only [List.take_succ_cons, List.take_zero]
    refine LW.skip rfl (fun _ e => by cases e; decide) rfl hg1_3 ?_
    refine LW.skip rfl (fun _ e => by cases e; decide) rfl hg1_3 ?_
    refine LW.skip rfl (fun _ e => by cases e; decide) rfl hg1_3 ?_
    refine LW.skip rfl (fun _ e => by cases e; decide) rfl hg1_3 ?_
    refine r_pickT rfl rfl hg1_3 ?_
    refine LW.nil (thenE_norm ⟨rfl, rfl, rfl⟩)
  simp only [setL, keepE, upd_get, ev, Nat.reduceEqDiff, ↓reduceIte]; simp only [List.drop_succ_cons, List.drop_zero]
  refine LW.nil ?_
  refine thenE_norm (h3 _ _ ?_); clear h3; try clear K3
  refine CW.cond rfl (fun hc1 => ?_) (fun hc1 => ?_)
  · try simp only [decide_eq_true_eq, decide_eq_false_iff_not, Bool.and_eq_true, Bool.or_eq_true, Bool.and_eq_false_iff, Bool.or_eq_false_iff, Bool.not_eq_true', Bool.not_eq_false', beq_iff_eq, bne_iff_ne] at hc1
    refine CW.seq (fun K4 h4 => ?_)
    refine CW.region ?_
    refine r_assign rfl ?_
    refine LW.nil ?_
    refine thenE_norm (h4 _ _ ?_); clear h4; try clear K4
    refine CW.ret (thenE_ret (ret1 Try.results23 (by simp only [upd_get, ev, Nat.reduceEqDiff, ↓reduceIte]; rfl) ?_))
    exact ⟨by rw [endM, if_pos hc1], rfl⟩
  · try simp only [decide_eq_true_eq, decide_eq_false_iff_not, Bool.and_eq_true, Bool.or_eq_true, Bool.and_eq_false_iff, Bool.or_eq_false_iff, Bool.not_eq_true', Bool.not_eq_false', beq_iff_eq, bne_iff_ne] at hc1
    refine CW.skip ?_
    refine thenE_norm (h2 _ _ ?_); clear h2; try clear K2
    refine CW.seq (fun K5 h5 => ?_)
    refine CW.seq (fun K6 h6 => ?_)
    refine CW.region ?_
    refine r_move rfl ?_
    refine r_move rfl ?_
    refine r_len rfl Try.underlying23 rfl ?_
    refine r_lss rfl rfl rfl ?_
    refine LW.nil ?_
    refine thenE_norm (h6 _ _ ?_); clear h6; try clear K6
    refine CW.cond rfl (fun hc2 => ?_) (fun hc2 => ?_)
    · try simp only [decide_eq_true_eq, decide_eq_false_iff_not, Bool.and_eq_true, Bool.or_eq_true, Bool.and_eq_false_iff, Bool.or_eq_false_iff, Bool.not_eq_true', Bool.not_eq_false', beq_iff_eq, bne_iff_ne] at hc2
      refine CW.seq (fun K7 h7 => ?_)
      refine CW.region ?_
      refine r_assign rfl ?_
      refine LW.nil ?_
      refine thenE_norm (h7 _ _ ?_); clear h7; try clear K7
      refine CW.ret (thenE_ret (ret1 Try.results23 (by simp only [upd_get, ev, Nat.reduceEqDiff, ↓reduceIte]; rfl) ?_))
      exact ⟨by rw [endM, if_neg (by omega), if_pos hc2], rfl⟩
    · try simp only [decide_eq_true_eq, decide_eq_false_iff_not, Bool.and_eq_true, Bool.or_eq_true, Bool.and_eq_false_iff, Bool.or_eq_false_iff, Bool.not_eq_true', Bool.not_eq_false', beq_iff_eq, bne_iff_ne] at hc2
      refine CW.skip ?_
      refine thenE_norm (h5 _ _ ?_); clear h5; try clear K5
      refine CW.seq (fun K8 h8 => ?_)
      refine CW.region ?_
      refine r_assign rfl ?_
      refine LW.nil ?_
      refine thenE_norm (h8 _ _ ?_); clear h8; try clear K8
      refine CW.ret (ret1 Try.results23 (by simp only [upd_get, ev, Nat.reduceEqDiff, ↓reduceIte]; rfl) ?_)
      exact ⟨by rw [endM, if_neg (by omega), if_neg (by omega)], rfl⟩

theorem room_c {F : Nat → Prop} {v : Value} {xs : List UInt8} (at_ n : Int) (w : World) (hv : Bs F w v xs) (hn : 0 ≤ n) :
    Calls Try.prog 50 #[v, .int .i64 at_, .int .i64 n] w fun e w' => e = .returned (.bool (decide (roomM xs at_ n))) ∧ w = w' := by
  obtain ⟨ao, cap, rfl, hl, hm, -⟩ := hv.cell
  refine calls_of_CW Try.func50 rfl Try.ntmps50 (Nat.le_of_ble_eq_true rfl) ?_
  simp only [argE, argFrom, Nat.reduceAdd]
  refine CW.seq (fun K1 h1 => ?_)
  refine CW.region ?_
  refine r_assign rfl ?_
  refine LW.nil ?_
  refine thenE_norm (h1 _ _ ?_); clear h1; try clear K1
  refine CW.seq (fun K2 h2 => ?_)
  refine CW.region ?_
  refine r_move rfl ?_
  refine r_geq rfl rfl rfl ?_
  refine r_move rfl ?_
  refine' LW.grpAnd (n := 5) (ts := [0, 1, 2, 15]) (d := 14) (tj := 9) rfl (fun hg1_3 => ?_) (fun hg1_3 => ?_) (fun σ => ?_)
  rotate_left
  · simp only [List.take_succ_cons, List.take_zero]
    have hg1_3P := hg1_3
    try simp only [decide_eq_true_eq, decide_eq_false_iff_not, Bool.and_eq_true, Bool.or_eq_true, Bool.and_eq_false_iff, Bool.or_eq_false_iff, Bool.not_eq_true', Bool.not_eq_false', beq_iff_eq, bne_iff_ne] at hg1_3P
    refine LW.want rfl rfl hg1_3 ?_
    refine r_move rfl ?_
    refine LW.want rfl rfl hg1_3 ?_
    refine r_move rfl ?_
    refine LW.want rfl rfl hg1_3 ?_
    refine r_len rfl Try.underlying23 rfl ?_
    refine LW.want rfl rfl hg1_3 ?_
    refine r_leq rfl rfl rfl ?_
    refine r_pickT rfl rfl hg1_3 ?_
    refine LW.nil (thenE_norm ⟨rfl, rfl, rfl⟩)
  · simp only [List.take_succ_cons, List.take_zero]
    refine LW.skip rfl (fun _ e => by cases e; decide) rfl hg1_3 ?_
    refine LW.skip rfl (fun _ e => by cases e; decide) rfl hg1_3 ?_
    refine LW.skip rfl (fun _ e => by cases e; decide) rfl hg1_3 ?_
    refine LW.skip rfl (fun _ e => by cases e; decide) rfl hg1_3 ?_
    refine r_pickF rfl rfl hg1_3 ?_
    refine LW.nil (thenE_norm ⟨rfl, rfl, rfl⟩)
  simp only [setL, keepE, upd_get, ev, Nat.reduceEqDiff, ↓reduceIte]; simp only [List.drop_succ_cons, List.drop_zero]
  refine r_move rfl ?_
  refine' LW.grpAnd (n := 7) (ts := []) (d := 22) (tj := 15) rfl (fun hg1_9 => ?_) (fun hg1_9 => ?_) (fun σ => ?_)
  rotate_left
  · simp only [List.take_succ_cons, List.take_zero]
    have hg1_9P := hg1_9
    try simp only [decide_eq_true_eq, decide_eq_false_iff_not, Bool.and_eq_true, Bool.or_eq_true, Bool.and_eq_false_iff, Bool.or_eq_false_iff, Bool.not_eq_true', Bool.not_eq_false', beq_iff_eq, bne_iff_ne] at hg1_9P
    refine LW.want rfl rfl hg1_9 ?_
    refine r_move rfl ?_
    refine LW.want rfl rfl hg1_9 ?_
    refine r_len rfl Try.underlying23 rfl ?_
    refine LW.want rfl rfl hg1_9 ?_
    refine r_move rfl ?_
    refine LW.want rfl rfl hg1_9 ?_
    refine r_sub rfl rfl rfl (wr_i64 (by omega) (by omega)) ?_
    refine LW.want rfl rfl hg1_9 ?_
    refine r_move rfl ?_
    refine LW.want rfl rfl hg1_9 ?_
    refine r_geq rfl rfl rfl ?_
    refine r_pickT rfl rfl hg1_9 ?_
    refine LW.nil (thenE_norm ⟨rfl, rfl, rfl⟩)
  · simp only [List.take_succ_cons, List.take_zero]
    refine LW.skip rfl (fun _ e => by cases e; decide) rfl hg1_9 ?_
    refine LW.skip rfl (fun _ e => by cases e; decide) rfl hg1_9 ?_
    refine LW.skip rfl (fun _ e => by cases e; decide) rfl hg1_9 ?_
    refine LW.skip rfl (fun _ e => by cases e; decide) rfl hg1_9 ?_
    refine LW.skip rfl (fun _ e => by cases e; decide) rfl hg1_9 ?_
    refine LW.skip rfl (fun _ e => by cases e; decide) rfl hg1_9 ?_
    refine r_pickF rfl rfl hg1_9 ?_
    refine LW.nil (thenE_norm ⟨rfl, rfl, rfl⟩)
  simp only [setL, keepE, upd_get, ev, Nat.reduceEqDiff, ↓reduceIte]; simp only [List.drop_succ_cons, List.drop_zero]
  refine r_assign rfl ?_
  refine LW.nil ?_
  refine thenE_norm (h2 _ _ ?_); clear h2; try clear K2
  refine CW.ret (ret1 Try.results50 (by simp only [upd_get, ev, Nat.reduceEqDiff, ↓reduceIte]; rfl) ?_)
  exact ⟨by congr 2; rw [Bool.eq_iff_iff]; simp only [Bool.and_eq_true, decide_eq_true_eq]; simp only [roomM, and_assoc], rfl⟩
end Go.Proofs.Ytgcmafgcigipdaa
