/-
  The walks of the functions on names and on great numbers.
-/
import Derived.Test.YtaggdlbjgjagbaaVMin
import Derived.Test.YtaggdlbjgjagbaaVMReq
import Derived.Test.YtaggdlbjgjagbaaChecked
namespace Go.Proofs.Ytaggdlbjgjagbaa
set_option linter.unusedSimpArgs false
set_option linter.unusedVariables false
open Go.V Go.RowKit Go.ChangeShapes Go.WideShapes

theorem Name_c (s : ByteArray) (w : World) (hs : s.size ≤ 9223372036854775807) :
    Calls Try.prog 60 #[.string s] w fun e w' => e = .returned (.bool (nameM s.data.toList)) ∧ w = w' := by
  have hsz : s.data.toList.length = s.size := by simp
  refine calls_of_CW Try.func60 rfl Try.ntmps60 (Nat.le_of_ble_eq_true rfl) ?_
  simp only [argE, argFrom, Nat.reduceAdd]
  refine CW.seq (fun K1 h1 => ?_)
  refine CW.region ?_
  refine r_assign rfl ?_
  refine LW.nil ?_
  refine thenE_norm (h1 _ _ ?_); clear h1; try clear K1
  refine CW.seq (fun K2 h2 => ?_)
  refine CW.seq (fun K3 h3 => ?_)
  refine CW.region ?_
  refine r_move rfl ?_
  refine r_lenS rfl Try.underlying9 rfl ?_
  refine r_move rfl ?_
  refine LW.nil ?_
  refine thenE_norm (h3 _ _ ?_); clear h3; try clear K3
  refine CW.block ?_
  refine CW.loopR [0, 6] [7] (fun m vs w' => ∃ i : Int, vs = [.int .i64 i] ∧ 0 ≤ i ∧ i ≤ s.size ∧ m = (s.size - i).toNat ∧ (s.data.toList.take i.toNat).all isN = true ∧ w = w') (s.size) ?_ ?_
  · exact ⟨0, rfl, by omega, by omega, by omega, rfl, rfl⟩
  rintro n1 vs1 wL1 σ ⟨i, rfl, hi0, hi1, rfl, hall, rfl⟩
  simp only [setL, keepE, upd_get, ev, Nat.reduceEqDiff, ↓reduceIte]
  have hstep := fun h => all_snoc s.data.toList i.toNat h isN
  have hcut := fun h => all_cut s.data.toList i.toNat h isN
  refine CW.seq (fun K4 h4 => ?_)
  refine CW.region ?_
  refine r_lss rfl rfl rfl ?_
  refine LW.nil ?_
  refine thenE_norm (h4 _ _ ?_); clear h4; try clear K4
  refine CW.seq (fun K5 h5 => ?_)
  refine CW.cond rfl (fun hc1 => ?_) (fun hc1 => ?_)
  · try simp only [decide_eq_true_eq, decide_eq_false_iff_not, Bool.and_eq_true, Bool.or_eq_true, Bool.and_eq_false_iff, Bool.or_eq_false_iff, Bool.not_eq_true', Bool.not_eq_false', beq_iff_eq, bne_iff_ne] at hc1
    refine CW.skip ?_
    refine thenE_norm (h5 _ _ ?_); clear h5; try clear K5
    refine CW.seq (fun K6 h6 => ?_)
    refine CW.block ?_
    refine CW.seq (fun K7 h7 => ?_)
    refine CW.region ?_
    refine r_move rfl ?_
    refine r_assign rfl ?_
    refine LW.nil ?_
    refine thenE_norm (h7 _ _ ?_); clear h7; try clear K7
    refine CW.seq (fun K8 h8 => ?_)
    refine CW.region ?_
    refine r_move rfl ?_
    refine r_move rfl ?_
    refine r_indexS rfl Try.underlying9 rfl rfl hi0 (by omega) ?_
    refine r_assign rfl ?_
    refine LW.nil ?_
    refine thenE_norm (h8 _ _ ?_); clear h8; try clear K8
    refine CW.seq (fun K9 h9 => ?_)
    refine CW.region ?_
    refine r_move rfl ?_
    refine r_lss rfl rfl rfl ?_
    refine r_move rfl ?_
    refine' LW.grpOr (n := 3) (ts := [0, 4, 6, 7, 19, 22, 27]) (d := 18) (tj := 15) rfl (fun hg5_3 => ?_) (fun hg5_3 => ?_) (fun σ => ?_)
    rotate_left
    · simp only [List.take_succ_cons, List.take_zero]
      have hg5_3P := hg5_3
      try simp only [decide_eq_true_eq, decide_eq_false_iff_not, Bool.and_eq_true, Bool.or_eq_true, Bool.and_eq_false_iff, Bool.or_eq_false_iff, Bool.not_eq_true', Bool.not_eq_false', beq_iff_eq, bne_iff_ne] at hg5_3P
      refine LW.want rfl rfl hg5_3 ?_
      refine r_move rfl ?_
      refine LW.want rfl rfl hg5_3 ?_
      refine r_gtr rfl rfl rfl ?_
      refine r_pickF rfl rfl hg5_3 ?_
      refine LW.nil (thenE_norm ⟨rfl, rfl, rfl⟩)
    · simp only [List.take_succ_cons, List.take_zero]
      refine LW.skip rfl (fun _ e => by cases e; decide) rfl hg5_3 ?_
      refine LW.skip rfl (fun _ e => by cases e; decide) rfl hg5_3 ?_
      refine r_pickT rfl rfl hg5_3 ?_
      refine LW.nil (thenE_norm ⟨rfl, rfl, rfl⟩)
    simp only [setL, keepE, upd_get, ev, Nat.reduceEqDiff, ↓reduceIte]; simp only [List.drop_succ_cons, List.drop_zero]
    refine r_move rfl ?_
    refine' LW.grpAnd (n := 7) (ts := [0, 4, 6, 7, 27]) (d := 26) (tj := 19) rfl (fun hg5_7 => ?_) (fun hg5_7 => ?_) (fun σ => ?_)
    rotate_left
    · simp only [List.take_succ_cons, List.take_zero]
      have hg5_7P := hg5_7
      try simp only [decide_eq_true_eq, decide_eq_false_iff_not, Bool.and_eq_true, Bool.or_eq_true, Bool.and_eq_false_iff, Bool.or_eq_false_iff, Bool.not_eq_true', Bool.not_eq_false', beq_iff_eq, bne_iff_ne] at hg5_7P
      refine LW.want rfl rfl hg5_7 ?_
      refine r_move rfl ?_
      refine LW.want rfl rfl hg5_7 ?_
      refine r_lss rfl rfl rfl ?_
      refine LW.want rfl rfl hg5_7 ?_
      refine r_move rfl ?_
      refine' LW.grpOr (n := 3) (ts := [0, 4, 6, 7, 19, 27]) (d := 25) (tj := 22) rfl (fun hg5_10 => ?_) (fun hg5_10 => ?_) (fun σ => ?_)
      rotate_left
      · simp only [List.take_succ_cons, List.take_zero]
        have hg5_10P := hg5_10
        try simp only [decide_eq_true_eq, decide_eq_false_iff_not, Bool.and_eq_true, Bool.or_eq_true, Bool.and_eq_false_iff, Bool.or_eq_false_iff, Bool.not_eq_true', Bool.not_eq_false', beq_iff_eq, bne_iff_ne] at hg5_10P
        refine LW.want rfl rfl hg5_10 ?_
        refine r_move rfl ?_
        refine LW.want rfl rfl hg5_10 ?_
        refine r_gtr rfl rfl rfl ?_
        refine LW.want rfl rfl hg5_7 ?_
        refine r_pickF rfl rfl hg5_10 ?_
        refine LW.nil (thenE_norm ⟨rfl, rfl, rfl⟩)
      · simp only [List.take_succ_cons, List.take_zero]
        refine LW.skip rfl (fun _ e => by cases e; decide) rfl hg5_10 ?_
        refine LW.skip rfl (fun _ e => by cases e; decide) rfl hg5_10 ?_
        refine LW.want rfl rfl hg5_7 ?_
        refine r_pickT rfl rfl hg5_10 ?_
        refine LW.nil (thenE_norm ⟨rfl, rfl, rfl⟩)
      simp only [setL, keepE, upd_get, ev, Nat.reduceEqDiff, ↓reduceIte]; simp only [List.drop_succ_cons, List.drop_zero]
      refine r_pickT rfl rfl hg5_7 ?_
      refine LW.nil (thenE_norm ⟨rfl, rfl, rfl⟩)
    · simp only [List.take_succ_cons, List.take_zero]
      refine LW.skip rfl (fun _ e => by cases e; decide) rfl hg5_7 ?_
      refine LW.skip rfl (fun _ e => by cases e; decide) rfl hg5_7 ?_
      refine LW.skip rfl (fun _ e => by cases e; decide) rfl hg5_7 ?_
      refine LW.skipU rfl (fun _ e => by cases e; decide) rfl ?_
      refine LW.skipU rfl (fun _ e => by cases e; decide) rfl ?_
      refine LW.skip rfl (fun _ e => by cases e; decide) rfl hg5_7 ?_
      refine r_pickF rfl rfl hg5_7 ?_
      refine LW.nil (thenE_norm ⟨rfl, rfl, rfl⟩)
    simp only [setL, keepE, upd_get, ev, Nat.reduceEqDiff, ↓reduceIte]; simp only [List.drop_succ_cons, List.drop_zero]
    refine r_move rfl ?_
    refine' LW.grpAnd (n := 3) (ts := [0, 6, 7]) (d := 30) (tj := 27) rfl (fun hg5_15 => ?_) (fun hg5_15 => ?_) (fun σ => ?_)
    rotate_left
    · simp only [List.take_succ_cons, List.take_zero]
      have hg5_15P := hg5_15
      try simp only [decide_eq_true_eq, decide_eq_false_iff_not, Bool.and_eq_true, Bool.or_eq_true, Bool.and_eq_false_iff, Bool.or_eq_false_iff, Bool.not_eq_true', Bool.not_eq_false', beq_iff_eq, bne_iff_ne] at hg5_15P
      refine LW.want rfl rfl hg5_15 ?_
      refine r_move rfl ?_
      refine LW.want rfl rfl hg5_15 ?_
      refine r_neq rfl rfl rfl ?_
      refine r_pickT rfl rfl hg5_15 ?_
      refine LW.nil (thenE_norm ⟨rfl, rfl, rfl⟩)
    · simp only [List.take_succ_cons, List.take_zero]
      refine LW.skip rfl (fun _ e => by cases e; decide) rfl hg5_15 ?_
      refine LW.skip rfl (fun _ e => by cases e; decide) rfl hg5_15 ?_
      refine r_pickF rfl rfl hg5_15 ?_
      refine LW.nil (thenE_norm ⟨rfl, rfl, rfl⟩)
    simp only [setL, keepE, upd_get, ev, Nat.reduceEqDiff, ↓reduceIte]; simp only [List.drop_succ_cons, List.drop_zero]
    refine LW.nil ?_
    refine thenE_norm (h9 _ _ ?_); clear h9; try clear K9
    refine CW.cond rfl (fun hc2 => ?_) (fun hc2 => ?_)
    · try simp only [decide_eq_true_eq, decide_eq_false_iff_not, Bool.and_eq_true, Bool.or_eq_true, Bool.and_eq_false_iff, Bool.or_eq_false_iff, Bool.not_eq_true', Bool.not_eq_false', beq_iff_eq, bne_iff_ne] at hc2
      refine CW.seq (fun K10 h10 => ?_)
      refine CW.region ?_
      refine r_assign rfl ?_
      refine LW.nil ?_
      refine thenE_norm (h10 _ _ ?_); clear h10; try clear K10
      refine CW.ret (blockE_ret (thenE_ret (thenE_ret (blockE_ret (thenE_ret (ret1 Try.results60 (by simp only [upd_get, ev, Nat.reduceEqDiff, ↓reduceIte]; rfl) ?_))))))
      have hb : isN (s.data.toList.getD i.toNat 0) = false := isN_f (by omega)
      exact ⟨by rw [nameM, hcut (by omega) hb, Bool.and_false], rfl⟩
    · try simp only [decide_eq_true_eq, decide_eq_false_iff_not, Bool.and_eq_true, Bool.or_eq_true, Bool.and_eq_false_iff, Bool.or_eq_false_iff, Bool.not_eq_true', Bool.not_eq_false', beq_iff_eq, bne_iff_ne] at hc2
      refine CW.skip ?_
      refine blockE_norm ?_
      refine thenE_norm (h6 _ _ ?_); clear h6; try clear K6
      refine CW.region ?_
      refine r_add rfl rfl rfl (wr_i64 (by omega) (by omega)) ?_
      refine r_move rfl ?_
      refine LW.nil ?_
      refine thenE_norm ⟨rfl, ?_⟩
      have hb : isN (s.data.toList.getD i.toNat 0) = true := isN_t (by omega)
      refine ⟨_, by omega, i + 1, rfl, by omega, by omega, rfl, ?_, rfl⟩
      rw [show (i + 1).toNat = i.toNat + 1 from by omega, hstep (by omega), hall, hb]; rfl
  · try simp only [decide_eq_true_eq, decide_eq_false_iff_not, Bool.and_eq_true, Bool.or_eq_true, Bool.and_eq_false_iff, Bool.or_eq_false_iff, Bool.not_eq_true', Bool.not_eq_false', beq_iff_eq, bne_iff_ne] at hc1
    refine CW.exit (thenE_exit (thenE_exit (blockE_hit ?_)))
    refine thenE_norm (h2 _ _ ?_); clear h2; try clear K2
    refine CW.seq (fun K11 h11 => ?_)
    refine CW.region ?_
    refine r_move rfl ?_
    refine r_lenS rfl Try.underlying9 rfl ?_
    refine r_geq rfl rfl rfl ?_
    refine r_move rfl ?_
    refine' LW.grpAnd (n := 4) (ts := []) (d := 39) (tj := 35) rfl (fun hg8_4 => ?_) (fun hg8_4 => ?_) (fun σ => ?_)
    rotate_left
    · simp only [List.take_succ_cons, List.take_zero]
      have hg8_4P := hg8_4
      try simp only [decide_eq_true_eq, decide_eq_false_iff_not, Bool.and_eq_true, Bool.or_eq_true, Bool.and_eq_false_iff, Bool.or_eq_false_iff, Bool.not_eq_true', Bool.not_eq_false', beq_iff_eq, bne_iff_ne] at hg8_4P
      refine LW.want rfl rfl hg8_4 ?_
      refine r_move rfl ?_
      refine LW.want rfl rfl hg8_4 ?_
      refine r_lenS rfl Try.underlying9 rfl ?_
      refine LW.want rfl rfl hg8_4 ?_
      refine r_leq rfl rfl rfl ?_
      refine r_pickT rfl rfl hg8_4 ?_
      refine LW.nil (thenE_norm ⟨rfl, rfl, rfl⟩)
    · simp only [List.take_succ_cons, List.take_zero]
      refine LW.skip rfl (fun _ e => by cases e; decide) rfl hg8_4 ?_
      refine LW.skip rfl (fun _ e => by cases e; decide) rfl hg8_4 ?_
      refine LW.skip rfl (fun _ e => by cases e; decide) rfl hg8_4 ?_
      refine r_pickF rfl rfl hg8_4 ?_
      refine LW.nil (thenE_norm ⟨rfl, rfl, rfl⟩)
    simp only [setL, keepE, upd_get, ev, Nat.reduceEqDiff, ↓reduceIte]; simp only [List.drop_succ_cons, List.drop_zero]
    refine r_assign rfl ?_
    refine LW.nil ?_
    refine thenE_norm (h11 _ _ ?_); clear h11; try clear K11
    refine CW.ret (ret1 Try.results60 (by simp only [upd_get, ev, Nat.reduceEqDiff, ↓reduceIte]; rfl) ?_)
    have hi : i = s.size := by omega
    subst hi
    rw [Int.toNat_natCast, ← hsz, List.take_length] at hall
    exact ⟨by rw [nameM, hall, Bool.and_true, ← nameM_len, hsz], rfl⟩

theorem NameR_c (s : ByteArray) (w : World) :
    Calls Try.prog 63 #[.string s] w fun e w' => e = .returned (.bool (nameM s.data.toList)) ∧ w = w' := by
  have hsz : s.data.toList.length = s.size := by simp
  refine calls_of_CW Try.func63 rfl Try.ntmps63 (Nat.le_of_ble_eq_true rfl) ?_
  simp only [argE, argFrom, Nat.reduceAdd]
  refine CW.seq (fun K1 h1 => ?_)
  refine CW.region ?_
  refine r_assign rfl ?_
  refine LW.nil ?_
  refine thenE_norm (h1 _ _ ?_); clear h1; try clear K1
  refine CW.seq (fun K2 h2 => ?_)
  refine CW.seq (fun K3 h3 => ?_)
  refine CW.region ?_
  refine r_move rfl ?_
  refine r_lenS rfl Try.underlying9 rfl ?_
  refine r_lss rfl rfl rfl ?_
  refine r_move rfl ?_
  refine' LW.grpOr (n := 4) (ts := [0]) (d := 12) (tj := 8) rfl (fun hg1_4 => ?_) (fun hg1_4 => ?_) (fun σ => ?_)
  rotate_left
  · simp only [List.take_succ_cons, List.take_zero]
    have hg1_4P := hg1_4
    try simp only [decide_eq_true_eq, decide_eq_false_iff_not, Bool.and_eq_true, Bool.or_eq_true, Bool.and_eq_false_iff, Bool.or_eq_false_iff, Bool.not_eq_true', Bool.not_eq_false', beq_iff_eq, bne_iff_ne] at hg1_4P
    refine LW.want rfl rfl hg1_4 ?_
    refine r_move rfl ?_
    refine LW.want rfl rfl hg1_4 ?_
    refine r_lenS rfl Try.underlying9 rfl ?_
    refine LW.want rfl rfl hg1_4 ?_
    refine r_gtr rfl rfl rfl ?_
    refine r_pickF rfl rfl hg1_4 ?_
    refine LW.nil (thenE_norm ⟨rfl, rfl, rfl⟩)
  · simp only [List.take_succ_cons, List.take_zero]
    refine LW.skip rfl (fun _ e => by cases e; decide) rfl hg1_4 ?_
    refine LW.skip rfl (fun _ e => by cases e; decide) rfl hg1_4 ?_
    refine LW.skip rfl (fun _ e => by cases e; decide) rfl hg1_4 ?_
    refine r_pickT rfl rfl hg1_4 ?_
    refine LW.nil (thenE_norm ⟨rfl, rfl, rfl⟩)
  simp only [setL, keepE, upd_get, ev, Nat.reduceEqDiff, ↓reduceIte]; simp only [List.drop_succ_cons, List.drop_zero]
  refine LW.nil ?_
  refine thenE_norm (h3 _ _ ?_); clear h3; try clear K3
  refine CW.cond rfl (fun hc1 => ?_) (fun hc1 => ?_)
  · try simp only [decide_eq_true_eq, decide_eq_false_iff_not, Bool.and_eq_true, Bool.or_eq_true, Bool.and_eq_false_iff, Bool.or_eq_false_iff, Bool.not_eq_true', Bool.not_eq_false', beq_iff_eq, bne_iff_ne] at hc1
    refine CW.seq (fun K4 h4 => ?_)
    refine CW.region ?_
    refine r_assign rfl ?_
    refine LW.nil ?_
    refine thenE_norm (h4 _ _ ?_); clear h4; try clear K4
    refine CW.ret (thenE_ret (ret1 Try.results63 (by simp only [upd_get, ev, Nat.reduceEqDiff, ↓reduceIte]; rfl) ?_))
    exact ⟨by rw [nameM, hsz]; congr 1; symm; simp; omega, rfl⟩
  · try simp only [decide_eq_true_eq, decide_eq_false_iff_not, Bool.and_eq_true, Bool.or_eq_true, Bool.and_eq_false_iff, Bool.or_eq_false_iff, Bool.not_eq_true', Bool.not_eq_false', beq_iff_eq, bne_iff_ne] at hc1
    refine CW.skip ?_
    refine thenE_norm (h2 _ _ ?_); clear h2; try clear K2
    refine CW.seq (fun K5 h5 => ?_)
    refine CW.seq (fun K6 h6 => ?_)
    refine CW.region ?_
    refine r_assign rfl ?_
    refine LW.nil ?_
    refine thenE_norm (h6 _ _ ?_); clear h6; try clear K6
    refine CW.block ?_
    refine CW.loopR [0] [3] (fun m vs w' => ∃ i : Int, vs = [.int .i64 i] ∧ 0 ≤ i ∧ i ≤ s.size ∧ m = (s.size - i).toNat ∧ (s.data.toList.take i.toNat).all isN = true ∧ w = w') (s.size) ?_ ?_
    · exact ⟨0, rfl, by omega, by omega, by omega, rfl, rfl⟩
    rintro n1 vs1 wL1 σ ⟨i, rfl, hi0, hi1, rfl, hall, rfl⟩
    simp only [setL, keepE, upd_get, ev, Nat.reduceEqDiff, ↓reduceIte]
    have hstep := fun h => all_snoc s.data.toList i.toNat h isN
    have hcut := fun h => all_cut s.data.toList i.toNat h isN
    refine CW.seq (fun K7 h7 => ?_)
    refine CW.seq (fun K8 h8 => ?_)
    refine CW.region ?_
    refine r_move rfl ?_
    refine r_move rfl ?_
    refine r_lenS rfl Try.underlying9 rfl ?_
    refine r_lss rfl rfl rfl ?_
    refine LW.nil ?_
    refine thenE_norm (h8 _ _ ?_); clear h8; try clear K8
    refine CW.cond rfl (fun hc2 => ?_) (fun hc2 => ?_)
    · try simp only [decide_eq_true_eq, decide_eq_false_iff_not, Bool.and_eq_true, Bool.or_eq_true, Bool.and_eq_false_iff, Bool.or_eq_false_iff, Bool.not_eq_true', Bool.not_eq_false', beq_iff_eq, bne_iff_ne] at hc2
      refine CW.skip ?_
      refine thenE_norm (h7 _ _ ?_); clear h7; try clear K7
      refine CW.seq (fun K9 h9 => ?_)
      refine CW.block ?_
      refine CW.seq (fun K10 h10 => ?_)
      refine CW.region ?_
      refine r_move rfl ?_
      refine r_move rfl ?_
      refine r_indexS rfl Try.underlying9 rfl rfl hi0 (by omega) ?_
      refine r_assign rfl ?_
      refine LW.nil ?_
      refine thenE_norm ?_
      refine cut (K := K10) [0, 3, 4] (fun σ => ?_)
      simp only [setL, keepE, upd_get, ev, Nat.reduceEqDiff, ↓reduceIte]
      refine h10 _ _ ?_; clear h10; try clear K10
      refine CW.seq (fun K11 h11 => ?_)
      refine CW.region ?_
      refine r_move rfl ?_
      refine r_geq rfl rfl rfl ?_
      refine r_move rfl ?_
      refine' LW.grpAnd (n := 3) (ts := [0, 3, 4, 28, 31, 36]) (d := 27) (tj := 24) rfl (fun hg7_3 => ?_) (fun hg7_3 => ?_) (fun σ => ?_)
      rotate_left
      · simp only [List.take_succ_cons, List.take_zero]
        have hg7_3P := hg7_3
        try simp only [decide_eq_true_eq, decide_eq_false_iff_not, Bool.and_eq_true, Bool.or_eq_true, Bool.and_eq_false_iff, Bool.or_eq_false_iff, Bool.not_eq_true', Bool.not_eq_false', beq_iff_eq, bne_iff_ne] at hg7_3P
        refine LW.want rfl rfl hg7_3 ?_
        refine r_move rfl ?_
        refine LW.want rfl rfl hg7_3 ?_
        refine r_leq rfl rfl rfl ?_
        refine r_pickT rfl rfl hg7_3 ?_
        refine LW.nil (thenE_norm ⟨rfl, rfl, rfl⟩)
      · simp only [List.take_succ_cons, List.take_zero]
        refine LW.skip rfl (fun _ e => by cases e; decide) rfl hg7_3 ?_
        refine LW.skip rfl (fun _ e => by cases e; decide) rfl hg7_3 ?_
        refine r_pickF rfl rfl hg7_3 ?_
        refine LW.nil (thenE_norm ⟨rfl, rfl, rfl⟩)
      simp only [setL, keepE, upd_get, ev, Nat.reduceEqDiff, ↓reduceIte]; simp only [List.drop_succ_cons, List.drop_zero]
      refine r_move rfl ?_
      refine' LW.grpOr (n := 7) (ts := [0, 3, 4, 36]) (d := 35) (tj := 28) rfl (fun hg7_7 => ?_) (fun hg7_7 => ?_) (fun σ => ?_)
      rotate_left
      · simp only [List.take_succ_cons, List.take_zero]
        have hg7_7P := hg7_7
        try simp only [decide_eq_true_eq, decide_eq_false_iff_not, Bool.and_eq_true, Bool.or_eq_true, Bool.and_eq_false_iff, Bool.or_eq_false_iff, Bool.not_eq_true', Bool.not_eq_false', beq_iff_eq, bne_iff_ne] at hg7_7P
        refine LW.want rfl rfl hg7_7 ?_
        refine r_move rfl ?_
        refine LW.want rfl rfl hg7_7 ?_
        refine r_geq rfl rfl rfl ?_
        refine LW.want rfl rfl hg7_7 ?_
        refine r_move rfl ?_
        refine' LW.grpAnd (n := 3) (ts := [0, 3, 4, 28, 36]) (d := 34) (tj := 31) rfl (fun hg7_10 => ?_) (fun hg7_10 => ?_) (fun σ => ?_)
        rotate_left
        · simp only [List.take_succ_cons, List.take_zero]
          have hg7_10P := hg7_10
          try simp only [decide_eq_true_eq, decide_eq_false_iff_not, Bool.and_eq_true, Bool.or_eq_true, Bool.and_eq_false_iff, Bool.or_eq_false_iff, Bool.not_eq_true', Bool.not_eq_false', beq_iff_eq, bne_iff_ne] at hg7_10P
          refine LW.want rfl rfl hg7_10 ?_
          refine r_move rfl ?_
          refine LW.want rfl rfl hg7_10 ?_
          refine r_leq rfl rfl rfl ?_
          refine LW.want rfl rfl hg7_7 ?_
          refine r_pickT rfl rfl hg7_10 ?_
          refine LW.nil (thenE_norm ⟨rfl, rfl, rfl⟩)
        · simp only [List.take_succ_cons, List.take_zero]
          refine LW.skip rfl (fun _ e => by cases e; decide) rfl hg7_10 ?_
          refine LW.skip rfl (fun _ e => by cases e; decide) rfl hg7_10 ?_
          refine LW.want rfl rfl hg7_7 ?_
          refine r_pickF rfl rfl hg7_10 ?_
          refine LW.nil (thenE_norm ⟨rfl, rfl, rfl⟩)
        simp only [setL, keepE, upd_get, ev, Nat.reduceEqDiff, ↓reduceIte]; simp only [List.drop_succ_cons, List.drop_zero]
        refine r_pickF rfl rfl hg7_7 ?_
        refine LW.nil (thenE_norm ⟨rfl, rfl, rfl⟩)
      · simp only [List.take_succ_cons, List.take_zero]
        refine LW.skip rfl (fun _ e => by cases e; decide) rfl hg7_7 ?_
        refine LW.skip rfl (fun _ e => by cases e; decide) rfl hg7_7 ?_
        refine LW.skip rfl (fun _ e => by cases e; decide) rfl hg7_7 ?_
        refine LW.skipU rfl (fun _ e => by cases e; decide) rfl ?_
        refine LW.skipU rfl (fun _ e => by cases e; decide) rfl ?_
        refine LW.skip rfl (fun _ e => by cases e; decide) rfl hg7_7 ?_
        refine r_pickT rfl rfl hg7_7 ?_
        refine LW.nil (thenE_norm ⟨rfl, rfl, rfl⟩)
      simp only [setL, keepE, upd_get, ev, Nat.reduceEqDiff, ↓reduceIte]; simp only [List.drop_succ_cons, List.drop_zero]
      refine r_move rfl ?_
      refine' LW.grpOr (n := 3) (ts := [0, 3]) (d := 39) (tj := 36) rfl (fun hg7_15 => ?_) (fun hg7_15 => ?_) (fun σ => ?_)
      rotate_left
      · simp only [List.take_succ_cons, List.take_zero]
        have hg7_15P := hg7_15
        try simp only [decide_eq_true_eq, decide_eq_false_iff_not, Bool.and_eq_true, Bool.or_eq_true, Bool.and_eq_false_iff, Bool.or_eq_false_iff, Bool.not_eq_true', Bool.not_eq_false', beq_iff_eq, bne_iff_ne] at hg7_15P
        refine LW.want rfl rfl hg7_15 ?_
        refine r_move rfl ?_
        refine LW.want rfl rfl hg7_15 ?_
        refine r_eql rfl rfl rfl ?_
        refine r_pickF rfl rfl hg7_15 ?_
        refine LW.nil (thenE_norm ⟨rfl, rfl, rfl⟩)
      · simp only [List.take_succ_cons, List.take_zero]
        refine LW.skip rfl (fun _ e => by cases e; decide) rfl hg7_15 ?_
        refine LW.skip rfl (fun _ e => by cases e; decide) rfl hg7_15 ?_
        refine r_pickT rfl rfl hg7_15 ?_
        refine LW.nil (thenE_norm ⟨rfl, rfl, rfl⟩)
      simp only [setL, keepE, upd_get, ev, Nat.reduceEqDiff, ↓reduceIte]; simp only [List.drop_succ_cons, List.drop_zero]
      refine r_not rfl rfl ?_
      refine LW.nil ?_
      refine thenE_norm (h11 _ _ ?_); clear h11; try clear K11
      refine CW.cond rfl (fun hc3 => ?_) (fun hc3 => ?_)
      · try simp only [decide_eq_true_eq, decide_eq_false_iff_not, Bool.and_eq_true, Bool.or_eq_true, Bool.and_eq_false_iff, Bool.or_eq_false_iff, Bool.not_eq_true', Bool.not_eq_false', beq_iff_eq, bne_iff_ne] at hc3
        refine CW.seq (fun K12 h12 => ?_)
        refine CW.region ?_
        refine r_assign rfl ?_
        refine LW.nil ?_
        refine thenE_norm (h12 _ _ ?_); clear h12; try clear K12
        refine CW.ret (blockE_ret (thenE_ret (thenE_ret (blockE_ret (thenE_ret (ret1 Try.results63 (by simp only [upd_get, ev, Nat.reduceEqDiff, ↓reduceIte]; rfl) ?_))))))
        have hb : isN (s.data.toList.getD i.toNat 0) = false := isN_f (by omega)
        exact ⟨by rw [nameM, hcut (by omega) hb, Bool.and_false], rfl⟩
      · try simp only [decide_eq_true_eq, decide_eq_false_iff_not, Bool.and_eq_true, Bool.or_eq_true, Bool.and_eq_false_iff, Bool.or_eq_false_iff, Bool.not_eq_true', Bool.not_eq_false', beq_iff_eq, bne_iff_ne] at hc3
        refine CW.skip ?_
        refine blockE_norm ?_
        refine thenE_norm (h9 _ _ ?_); clear h9; try clear K9
        refine CW.region ?_
        refine r_move rfl ?_
        refine r_add rfl rfl rfl (wr_i64 (by omega) (by omega)) ?_
        refine r_assign rfl ?_
        refine LW.nil ?_
        refine thenE_norm ⟨rfl, ?_⟩
        have hb : isN (s.data.toList.getD i.toNat 0) = true := isN_t (by omega)
        refine ⟨_, by omega, i + 1, rfl, by omega, by omega, rfl, ?_, rfl⟩
        rw [show (i + 1).toNat = i.toNat + 1 from by omega, hstep (by omega), hall, hb]; rfl
    · try simp only [decide_eq_true_eq, decide_eq_false_iff_not, Bool.and_eq_true, Bool.or_eq_true, Bool.and_eq_false_iff, Bool.or_eq_false_iff, Bool.not_eq_true', Bool.not_eq_false', beq_iff_eq, bne_iff_ne] at hc2
      refine CW.exit (thenE_exit (thenE_exit (blockE_hit ?_)))
      refine thenE_norm (h5 _ _ ?_); clear h5; try clear K5
      refine CW.seq (fun K13 h13 => ?_)
      refine CW.region ?_
      refine r_assign rfl ?_
      refine LW.nil ?_
      refine thenE_norm (h13 _ _ ?_); clear h13; try clear K13
      refine CW.ret (ret1 Try.results63 (by simp only [upd_get, ev, Nat.reduceEqDiff, ↓reduceIte]; rfl) ?_)
      have hi : i = s.size := by omega
      subst hi
      rw [Int.toNat_natCast, ← hsz, List.take_length] at hall
      exact ⟨by rw [nameM, hall, Bool.and_true, hsz]; congr 1; symm; simp; omega, rfl⟩

end Go.Proofs.Ytaggdlbjgjagbaa
