/-
  The walks of layer 19's functions: may a request be.
-/
import Derived.Test.YtgcmafgcigipdaaVMin
import Derived.Test.YtgcmafgcigipdaaVMReq
import Derived.Test.YtgcmafgcigipdaaChecked
import Derived.Test.YtgcmafgcigipdaaVPlO
namespace Go.Proofs.Ytgcmafgcigipdaa
set_option linter.unusedSimpArgs false
set_option linter.unusedVariables false
open Go.V Go.RowKit Go.ChangeShapes Go.WideShapes

theorem May_c (k n : Int) (s : ByteArray) (w : World) (hs : s.size ≤ 9223372036854775807) :
    Calls Try.prog 36 #[cmdV k n s] w fun e w' => e = .returned (.bool (mayM k n s.data.toList)) ∧ Ext0 w w' := by
  refine calls_of_CW Try.func36 rfl Try.ntmps36 (Nat.le_of_ble_eq_true rfl) ?_
  simp only [argE, argFrom, Nat.reduceAdd]
  refine CW.seq (fun K1 h1 => ?_)
  refine CW.region ?_
  refine r_box rfl (by simp only [upd_get, ev, Nat.reduceEqDiff, ↓reduceIte] <;> rfl) rfl ?_
  intro b0_0 w0_0 hb0_0 hs0_0 hE0_0 hB0_0
  have hB : Blk w0_0 b0_0 42 (cmdL k n s) := hB0_0
  have c0 := hB.cell (o := 0) rfl
  have c1 := hB.cell (o := 1) rfl
  have c2 := hB.cell (o := 2) rfl
  refine r_assign rfl ?_
  refine LW.nil ?_
  refine thenE_norm (h1 _ _ ?_); clear h1; try clear K1
  refine CW.seq (fun K2 h2 => ?_)
  refine CW.block ?_
  refine CW.seq (fun K3 h3 => ?_)
  refine CW.region ?_
  refine r_fieldAddr rfl Try.underlying42 rfl Try.sizeOf3 (by decide) rfl ?_
  refine r_load rfl Try.isAgg3 rfl c0 ?_
  refine r_lss rfl rfl rfl ?_
  refine r_move rfl ?_
  refine' LW.grpOr (n := 4) (ts := [1]) (d := 11) (tj := 7) rfl (fun hg1_4 => ?_) (fun hg1_4 => ?_) (fun σ => ?_)
  rotate_left
  · simp only [List.take_succ_cons, List.take_zero]
    have hg1_4P := hg1_4
    try simp only [decide_eq_true_eq, decide_eq_false_iff_not, Bool.and_eq_true, Bool.or_eq_true, Bool.and_eq_false_iff, Bool.or_eq_false_iff, Bool.not_eq_true', Bool.not_eq_false', beq_iff_eq, bne_iff_ne] at hg1_4P
    refine LW.want rfl rfl hg1_4 ?_
    refine r_fieldAddr rfl Try.underlying42 rfl Try.sizeOf3 (by decide) rfl ?_
    refine LW.want rfl rfl hg1_4 ?_
    refine r_load rfl Try.isAgg3 rfl c0 ?_
    refine LW.want rfl rfl hg1_4 ?_
    refine r_gtr rfl rfl rfl ?_
    refine r_pickF rfl rfl hg1_4 ?_
    refine LW.nil (thenE_norm ⟨rfl, rfl, rfl⟩)
  · simp only [List.take_succ_cons, List.take_zero]
    refine LW.skip rfl (fun _ e => by cases e; decide) rfl hg1_4 ?_
    refine LW.skip rfl (fun _ e => by cases e; decide) rfl hg1_4 ?_
    refine LW.skip rfl (fun _ e => by cases e; decide) rfl hg1_4 ?_
    refine r_pickT rfl rfl hg1_4 ?_
    refine LW.nil (thenE_norm ⟨rfl, rfl, rfl⟩)
  simp only [setL, keepE, upd_get, ev, Nat.reduceEqDiff, ↓reduceIte]; simp only [List.drop_succ_cons, List.drop_zero]
  refine r_assign rfl ?_
  refine LW.nil ?_
  refine thenE_norm (h3 _ _ ?_); clear h3; try clear K3
  refine CW.cond rfl (fun hc1 => ?_) (fun hc1 => ?_)
  · try simp only [decide_eq_true_eq, decide_eq_false_iff_not, Bool.and_eq_true, Bool.or_eq_true, Bool.and_eq_false_iff, Bool.or_eq_false_iff, Bool.not_eq_true', Bool.not_eq_false', beq_iff_eq, bne_iff_ne] at hc1
    refine CW.seq (fun K4 h4 => ?_)
    refine CW.region ?_
    refine r_assign rfl ?_
    refine LW.nil ?_
    refine thenE_norm (h4 _ _ ?_); clear h4; try clear K4
    refine CW.ret (blockE_ret (thenE_ret (ret1 Try.results36 (by simp only [upd_get, ev, Nat.reduceEqDiff, ↓reduceIte]; rfl) ?_)))
    exact ⟨by rw [mayM, if_pos (by omega)], hE0_0⟩
  · try simp only [decide_eq_true_eq, decide_eq_false_iff_not, Bool.and_eq_true, Bool.or_eq_true, Bool.and_eq_false_iff, Bool.or_eq_false_iff, Bool.not_eq_true', Bool.not_eq_false', beq_iff_eq, bne_iff_ne] at hc1
    refine CW.seq (fun K5 h5 => ?_)
    refine CW.region ?_
    refine r_fieldAddr rfl Try.underlying42 rfl Try.sizeOf3 (by decide) rfl ?_
    refine r_load rfl Try.isAgg3 rfl c0 ?_
    refine r_call rfl Try.call55 rfl (named_c k _) ?_
    rintro _ w1 ⟨rfl, rfl⟩
    refine ⟨_, rfl, ?_⟩
    refine r_move rfl ?_
    refine' LW.grpAnd (n := 5) (ts := [1, 22, 27]) (d := 21) (tj := 16) rfl (fun hg3_4 => ?_) (fun hg3_4 => ?_) (fun σ => ?_)
    rotate_left
    · simp only [List.take_succ_cons, List.take_zero]
      have hg3_4P := hg3_4
      try simp only [decide_eq_true_eq, decide_eq_false_iff_not, Bool.and_eq_true, Bool.or_eq_true, Bool.and_eq_false_iff, Bool.or_eq_false_iff, Bool.not_eq_true', Bool.not_eq_false', beq_iff_eq, bne_iff_ne] at hg3_4P
      refine LW.want rfl rfl hg3_4 ?_
      refine r_fieldAddr rfl Try.underlying42 rfl Try.sizeOf9 (by decide) rfl ?_
      refine LW.want rfl rfl hg3_4 ?_
      refine r_load rfl Try.isAgg9 rfl c2 ?_
      refine LW.want rfl rfl hg3_4 ?_
      refine r_call rfl Try.call38 rfl (Name_c s _ hs) ?_
      rintro _ w2 ⟨rfl, rfl⟩
      refine ⟨_, rfl, ?_⟩
      refine LW.want rfl rfl hg3_4 ?_
      refine r_not rfl rfl ?_
      refine r_pickT rfl rfl hg3_4 ?_
      refine LW.nil (thenE_norm ⟨rfl, rfl, rfl⟩)
    · simp only [List.take_succ_cons, List.take_zero]
      refine LW.skip rfl (fun _ e => by cases e; decide) rfl hg3_4 ?_
      refine LW.skip rfl (fun _ e => by cases e; decide) rfl hg3_4 ?_
      refine LW.skip rfl (fun _ e => by cases e; decide) rfl hg3_4 ?_
      refine LW.skip rfl (fun _ e => by cases e; decide) rfl hg3_4 ?_
      refine r_pickF rfl rfl hg3_4 ?_
      refine LW.nil (thenE_norm ⟨rfl, rfl, rfl⟩)
    simp only [setL, keepE, upd_get, ev, Nat.reduceEqDiff, ↓reduceIte]; simp only [List.drop_succ_cons, List.drop_zero]
    refine r_move rfl ?_
    refine' LW.grpOr (n := 10) (ts := [1]) (d := 32) (tj := 22) rfl (fun hg3_10 => ?_) (fun hg3_10 => ?_) (fun σ => ?_)
    rotate_left
    · simp only [List.take_succ_cons, List.take_zero]
      have hg3_10P := hg3_10
      try simp only [decide_eq_true_eq, decide_eq_false_iff_not, Bool.and_eq_true, Bool.or_eq_true, Bool.and_eq_false_iff, Bool.or_eq_false_iff, Bool.not_eq_true', Bool.not_eq_false', beq_iff_eq, bne_iff_ne] at hg3_10P
      refine LW.want rfl rfl hg3_10 ?_
      refine r_fieldAddr rfl Try.underlying42 rfl Try.sizeOf3 (by decide) rfl ?_
      refine LW.want rfl rfl hg3_10 ?_
      refine r_load rfl Try.isAgg3 rfl c0 ?_
      refine LW.want rfl rfl hg3_10 ?_
      refine r_call rfl Try.call55 rfl (named_c k _) ?_
      rintro _ w3 ⟨rfl, rfl⟩
      refine ⟨_, rfl, ?_⟩
      refine LW.want rfl rfl hg3_10 ?_
      refine r_not rfl rfl ?_
      refine LW.want rfl rfl hg3_10 ?_
      refine r_move rfl ?_
      refine' LW.grpAnd (n := 4) (ts := [1, 22]) (d := 31) (tj := 27) rfl (fun hg3_15 => ?_) (fun hg3_15 => ?_) (fun σ => ?_)
      rotate_left
      · simp only [List.take_succ_cons, List.take_zero]
        have hg3_15P := hg3_15
        try simp only [decide_eq_true_eq, decide_eq_false_iff_not, Bool.and_eq_true, Bool.or_eq_true, Bool.and_eq_false_iff, Bool.or_eq_false_iff, Bool.not_eq_true', Bool.not_eq_false', beq_iff_eq, bne_iff_ne] at hg3_15P
        refine LW.want rfl rfl hg3_15 ?_
        refine r_fieldAddr rfl Try.underlying42 rfl Try.sizeOf9 (by decide) rfl ?_
        refine LW.want rfl rfl hg3_15 ?_
        refine r_load rfl Try.isAgg9 rfl c2 ?_
        refine LW.want rfl rfl hg3_15 ?_
        refine r_neqS rfl rfl rfl ?_
        refine LW.want rfl rfl hg3_10 ?_
        refine r_pickT rfl rfl hg3_15 ?_
        refine LW.nil (thenE_norm ⟨rfl, rfl, rfl⟩)
      · simp only [List.take_succ_cons, List.take_zero]
        refine LW.skip rfl (fun _ e => by cases e; decide) rfl hg3_15 ?_
        refine LW.skip rfl (fun _ e => by cases e; decide) rfl hg3_15 ?_
        refine LW.skip rfl (fun _ e => by cases e; decide) rfl hg3_15 ?_
        refine LW.want rfl rfl hg3_10 ?_
        refine r_pickF rfl rfl hg3_15 ?_
        refine LW.nil (thenE_norm ⟨rfl, rfl, rfl⟩)
      simp only [setL, keepE, upd_get, ev, Nat.reduceEqDiff, ↓reduceIte]; simp only [List.drop_succ_cons, List.drop_zero]
      refine r_pickF rfl rfl hg3_10 ?_
      refine LW.nil (thenE_norm ⟨rfl, rfl, rfl⟩)
    · simp only [List.take_succ_cons, List.take_zero]
      refine LW.skip rfl (fun _ e => by cases e; decide) rfl hg3_10 ?_
      refine LW.skip rfl (fun _ e => by cases e; decide) rfl hg3_10 ?_
      refine LW.skip rfl (fun _ e => by cases e; decide) rfl hg3_10 ?_
      refine LW.skip rfl (fun _ e => by cases e; decide) rfl hg3_10 ?_
      refine LW.skip rfl (fun _ e => by cases e; decide) rfl hg3_10 ?_
      refine LW.skipU rfl (fun _ e => by cases e; decide) rfl ?_
      refine LW.skipU rfl (fun _ e => by cases e; decide) rfl ?_
      refine LW.skipU rfl (fun _ e => by cases e; decide) rfl ?_
      refine LW.skip rfl (fun _ e => by cases e; decide) rfl hg3_10 ?_
      refine r_pickT rfl rfl hg3_10 ?_
      refine LW.nil (thenE_norm ⟨rfl, rfl, rfl⟩)
    simp only [setL, keepE, upd_get, ev, Nat.reduceEqDiff, ↓reduceIte]; simp only [List.drop_succ_cons, List.drop_zero]
    refine r_assign rfl ?_
    refine LW.nil ?_
    refine thenE_norm (h5 _ _ ?_); clear h5; try clear K5
    refine CW.cond rfl (fun hc2 => ?_) (fun hc2 => ?_)
    · try simp only [decide_eq_true_eq, decide_eq_false_iff_not, Bool.and_eq_true, Bool.or_eq_true, Bool.and_eq_false_iff, Bool.or_eq_false_iff, Bool.not_eq_true', Bool.not_eq_false', beq_iff_eq, bne_iff_ne] at hc2
      refine CW.seq (fun K6 h6 => ?_)
      refine CW.region ?_
      refine r_assign rfl ?_
      refine LW.nil ?_
      refine thenE_norm (h6 _ _ ?_); clear h6; try clear K6
      refine CW.ret (blockE_ret (thenE_ret (ret1 Try.results36 (by simp only [upd_get, ev, Nat.reduceEqDiff, ↓reduceIte]; rfl) ?_)))
      exact ⟨by rw [may_bad hc1 hc2], hE0_0⟩
    · try simp only [decide_eq_true_eq, decide_eq_false_iff_not, Bool.and_eq_true, Bool.or_eq_true, Bool.and_eq_false_iff, Bool.or_eq_false_iff, Bool.not_eq_true', Bool.not_eq_false', beq_iff_eq, bne_iff_ne] at hc2
      refine CW.seq (fun K7 h7 => ?_)
      refine CW.region ?_
      refine r_fieldAddr rfl Try.underlying42 rfl Try.sizeOf3 (by decide) rfl ?_
      refine r_load rfl Try.isAgg3 rfl c0 ?_
      refine r_eql rfl rfl rfl ?_
      refine r_assign rfl ?_
      refine LW.nil ?_
      refine thenE_norm (h7 _ _ ?_); clear h7; try clear K7
      refine CW.cond rfl (fun hc3 => ?_) (fun hc3 => ?_)
      · try simp only [decide_eq_true_eq, decide_eq_false_iff_not, Bool.and_eq_true, Bool.or_eq_true, Bool.and_eq_false_iff, Bool.or_eq_false_iff, Bool.not_eq_true', Bool.not_eq_false', beq_iff_eq, bne_iff_ne] at hc3
        refine CW.seq (fun K8 h8 => ?_)
        refine CW.region ?_
        refine r_fieldAddr rfl Try.underlying42 rfl Try.sizeOf3 (by decide) rfl ?_
        refine r_load rfl Try.isAgg3 rfl c1 ?_
        refine r_eql rfl rfl rfl ?_
        refine r_assign rfl ?_
        refine LW.nil ?_
        refine thenE_norm ?_
        refine cut (K := K8) [2] (fun σ => ?_)
        simp only [setL, keepE, upd_get, ev, Nat.reduceEqDiff, ↓reduceIte]
        refine h8 _ _ ?_; clear h8; try clear K8
        refine CW.ret (blockE_ret (thenE_ret (ret1 Try.results36 (by simp only [upd_get, ev, Nat.reduceEqDiff, ↓reduceIte]; rfl) ?_)))
        exact ⟨by rw [may_open hc2 hc3], hE0_0⟩
      · try simp only [decide_eq_true_eq, decide_eq_false_iff_not, Bool.and_eq_true, Bool.or_eq_true, Bool.and_eq_false_iff, Bool.or_eq_false_iff, Bool.not_eq_true', Bool.not_eq_false', beq_iff_eq, bne_iff_ne] at hc3
        refine CW.skip ?_
        refine blockE_norm ?_
        refine thenE_norm (h2 _ _ ?_); clear h2; try clear K2
        refine CW.seq (fun K9 h9 => ?_)
        refine CW.region ?_
        refine r_fieldAddr rfl Try.underlying42 rfl Try.sizeOf3 (by decide) rfl ?_
        refine r_load rfl Try.isAgg3 rfl c1 ?_
        refine r_geq rfl rfl rfl ?_
        refine r_move rfl ?_
        refine' LW.grpAnd (n := 4) (ts := []) (d := 47) (tj := 43) rfl (fun hg7_4 => ?_) (fun hg7_4 => ?_) (fun σ => ?_)
        rotate_left
        · simp only [List.take_succ_cons, List.take_zero]
          have hg7_4P := hg7_4
          try simp only [decide_eq_true_eq, decide_eq_false_iff_not, Bool.and_eq_true, Bool.or_eq_true, Bool.and_eq_false_iff, Bool.or_eq_false_iff, Bool.not_eq_true', Bool.not_eq_false', beq_iff_eq, bne_iff_ne] at hg7_4P
          refine LW.want rfl rfl hg7_4 ?_
          refine r_fieldAddr rfl Try.underlying42 rfl Try.sizeOf3 (by decide) rfl ?_
          refine LW.want rfl rfl hg7_4 ?_
          refine r_load rfl Try.isAgg3 rfl c1 ?_
          refine LW.want rfl rfl hg7_4 ?_
          refine r_leq rfl rfl rfl ?_
          refine r_pickT rfl rfl hg7_4 ?_
          refine LW.nil (thenE_norm ⟨rfl, rfl, rfl⟩)
        · simp only [List.take_succ_cons, List.take_zero]
          refine LW.skip rfl (fun _ e => by cases e; decide) rfl hg7_4 ?_
          refine LW.skip rfl (fun _ e => by cases e; decide) rfl hg7_4 ?_
          refine LW.skip rfl (fun _ e => by cases e; decide) rfl hg7_4 ?_
          refine r_pickF rfl rfl hg7_4 ?_
          refine LW.nil (thenE_norm ⟨rfl, rfl, rfl⟩)
        simp only [setL, keepE, upd_get, ev, Nat.reduceEqDiff, ↓reduceIte]; simp only [List.drop_succ_cons, List.drop_zero]
        refine r_assign rfl ?_
        refine LW.nil ?_
        refine thenE_norm (h9 _ _ ?_); clear h9; try clear K9
        refine CW.ret (ret1 Try.results36 (by simp only [upd_get, ev, Nat.reduceEqDiff, ↓reduceIte]; rfl) ?_)
        exact ⟨by rw [may_high hc1 hc2 hc3, highM], hE0_0⟩

theorem MayR_c (k n : Int) (s : ByteArray) (w : World) :
    Calls Try.prog 37 #[cmdV k n s] w fun e w' => e = .returned (.bool (mayM k n s.data.toList)) ∧ Ext0 w w' := by
  refine calls_of_CW Try.func37 rfl Try.ntmps37 (Nat.le_of_ble_eq_true rfl) ?_
  simp only [argE, argFrom, Nat.reduceAdd]
  refine CW.seq (fun K1 h1 => ?_)
  refine CW.region ?_
  refine r_box rfl (by simp only [upd_get, ev, Nat.reduceEqDiff, ↓reduceIte] <;> rfl) rfl ?_
  intro b0_0 w0_0 hb0_0 hs0_0 hE0_0 hB0_0
  have hB : Blk w0_0 b0_0 42 (cmdL k n s) := hB0_0
  have c0 := hB.cell (o := 0) rfl
  have c1 := hB.cell (o := 1) rfl
  have c2 := hB.cell (o := 2) rfl
  refine r_assign rfl ?_
  refine LW.nil ?_
  refine thenE_norm (h1 _ _ ?_); clear h1; try clear K1
  refine CW.seq (fun K2 h2 => ?_)
  refine CW.seq (fun K3 h3 => ?_)
  refine CW.region ?_
  refine r_fieldAddr rfl Try.underlying42 rfl Try.sizeOf3 (by decide) rfl ?_
  refine r_load rfl Try.isAgg3 rfl c0 ?_
  refine LW.nil ?_
  refine thenE_norm (h3 _ _ ?_); clear h3; try clear K3
  refine CW.block ?_
  refine CW.seq (fun K4 h4 => ?_)
  refine CW.region ?_
  refine r_eql rfl rfl rfl ?_
  refine r_assign rfl ?_
  refine LW.nil ?_
  refine thenE_norm (h4 _ _ ?_); clear h4; try clear K4
  refine CW.cond rfl (fun hc1 => ?_) (fun hc1 => ?_)
  · try simp only [decide_eq_true_eq, decide_eq_false_iff_not, Bool.and_eq_true, Bool.or_eq_true, Bool.and_eq_false_iff, Bool.or_eq_false_iff, Bool.not_eq_true', Bool.not_eq_false', beq_iff_eq, bne_iff_ne] at hc1
    refine CW.seq (fun K5 h5 => ?_)
    refine CW.region ?_
    refine r_fieldAddr rfl Try.underlying42 rfl Try.sizeOf3 (by decide) rfl ?_
    refine r_load rfl Try.isAgg3 rfl c1 ?_
    refine r_eql rfl rfl rfl ?_
    refine r_move rfl ?_
    refine' LW.grpAnd (n := 4) (ts := []) (d := 14) (tj := 10) rfl (fun hg3_4 => ?_) (fun hg3_4 => ?_) (fun σ => ?_)
    rotate_left
    · simp only [List.take_succ_cons, List.take_zero]
      have hg3_4P := hg3_4
      try simp only [decide_eq_true_eq, decide_eq_false_iff_not, Bool.and_eq_true, Bool.or_eq_true, Bool.and_eq_false_iff, Bool.or_eq_false_iff, Bool.not_eq_true', Bool.not_eq_false', beq_iff_eq, bne_iff_ne] at hg3_4P
      refine LW.want rfl rfl hg3_4 ?_
      refine r_fieldAddr rfl Try.underlying42 rfl Try.sizeOf9 (by decide) rfl ?_
      refine LW.want rfl rfl hg3_4 ?_
      refine r_load rfl Try.isAgg9 rfl c2 ?_
      refine LW.want rfl rfl hg3_4 ?_
      refine r_eqlS rfl rfl rfl ?_
      refine r_pickT rfl rfl hg3_4 ?_
      refine LW.nil (thenE_norm ⟨rfl, rfl, rfl⟩)
    · simp only [List.take_succ_cons, List.take_zero]
      refine LW.skip rfl (fun _ e => by cases e; decide) rfl hg3_4 ?_
      refine LW.skip rfl (fun _ e => by cases e; decide) rfl hg3_4 ?_
      refine LW.skip rfl (fun _ e => by cases e; decide) rfl hg3_4 ?_
      refine r_pickF rfl rfl hg3_4 ?_
      refine LW.nil (thenE_norm ⟨rfl, rfl, rfl⟩)
    simp only [setL, keepE, upd_get, ev, Nat.reduceEqDiff, ↓reduceIte]; simp only [List.drop_succ_cons, List.drop_zero]
    refine r_assign rfl ?_
    refine LW.nil ?_
    refine thenE_norm (h5 _ _ ?_); clear h5; try clear K5
    refine CW.ret (blockE_ret (thenE_ret (ret1 Try.results37 (by simp only [upd_get, ev, Nat.reduceEqDiff, ↓reduceIte]; rfl) ?_)))
    exact ⟨by subst hc1; rw [may_one], hE0_0⟩
  · try simp only [decide_eq_true_eq, decide_eq_false_iff_not, Bool.and_eq_true, Bool.or_eq_true, Bool.and_eq_false_iff, Bool.or_eq_false_iff, Bool.not_eq_true', Bool.not_eq_false', beq_iff_eq, bne_iff_ne] at hc1
    refine CW.seq (fun K6 h6 => ?_)
    refine CW.seq (fun K7 h7 => ?_)
    refine CW.region ?_
    refine r_eql rfl rfl rfl ?_
    refine r_assign rfl ?_
    refine LW.nil ?_
    refine thenE_norm ?_
    refine cut (K := K7) [1, 4, 15] (fun σ => ?_)
    simp only [setL, keepE, upd_get, ev, Nat.reduceEqDiff, ↓reduceIte]
    refine h7 _ _ ?_; clear h7; try clear K7
    refine CW.cond rfl (fun hc2 => ?_) (fun hc2 => ?_)
    · try simp only [decide_eq_true_eq, decide_eq_false_iff_not, Bool.and_eq_true, Bool.or_eq_true, Bool.and_eq_false_iff, Bool.or_eq_false_iff, Bool.not_eq_true', Bool.not_eq_false', beq_iff_eq, bne_iff_ne] at hc2
      refine CW.skip ?_
      refine thenE_norm (h6 _ _ ?_); clear h6; try clear K6
      refine CW.cond rfl (fun hc3 => ?_) (fun hc3 => ?_)
      · try simp only [decide_eq_true_eq, decide_eq_false_iff_not, Bool.and_eq_true, Bool.or_eq_true, Bool.and_eq_false_iff, Bool.or_eq_false_iff, Bool.not_eq_true', Bool.not_eq_false', beq_iff_eq, bne_iff_ne] at hc3
        refine CW.seq (fun K8 h8 => ?_)
        refine CW.region ?_
        refine r_fieldAddr rfl Try.underlying42 rfl Try.sizeOf3 (by decide) rfl ?_
        refine r_load rfl Try.isAgg3 rfl c1 ?_
        refine r_call rfl Try.call56 rfl (high_c n 1 _) ?_
        rintro _ w1 ⟨rfl, rfl⟩
        refine ⟨_, rfl, ?_⟩
        refine r_move rfl ?_
        refine' LW.grpAnd (n := 4) (ts := []) (d := 25) (tj := 21) rfl (fun hg6_4 => ?_) (fun hg6_4 => ?_) (fun σ => ?_)
        rotate_left
        · simp only [List.take_succ_cons, List.take_zero]
          have hg6_4P := hg6_4
          try simp only [decide_eq_true_eq, decide_eq_false_iff_not, Bool.and_eq_true, Bool.or_eq_true, Bool.and_eq_false_iff, Bool.or_eq_false_iff, Bool.not_eq_true', Bool.not_eq_false', beq_iff_eq, bne_iff_ne] at hg6_4P
          refine LW.want rfl rfl hg6_4 ?_
          refine r_fieldAddr rfl Try.underlying42 rfl Try.sizeOf9 (by decide) rfl ?_
          refine LW.want rfl rfl hg6_4 ?_
          refine r_load rfl Try.isAgg9 rfl c2 ?_
          refine LW.want rfl rfl hg6_4 ?_
          refine r_eqlS rfl rfl rfl ?_
          refine r_pickT rfl rfl hg6_4 ?_
          refine LW.nil (thenE_norm ⟨rfl, rfl, rfl⟩)
        · simp only [List.take_succ_cons, List.take_zero]
          refine LW.skip rfl (fun _ e => by cases e; decide) rfl hg6_4 ?_
          refine LW.skip rfl (fun _ e => by cases e; decide) rfl hg6_4 ?_
          refine LW.skip rfl (fun _ e => by cases e; decide) rfl hg6_4 ?_
          refine r_pickF rfl rfl hg6_4 ?_
          refine LW.nil (thenE_norm ⟨rfl, rfl, rfl⟩)
        simp only [setL, keepE, upd_get, ev, Nat.reduceEqDiff, ↓reduceIte]; simp only [List.drop_succ_cons, List.drop_zero]
        refine r_assign rfl ?_
        refine LW.nil ?_
        refine thenE_norm (h8 _ _ ?_); clear h8; try clear K8
        refine CW.ret (blockE_ret (thenE_ret (ret1 Try.results37 (by simp only [upd_get, ev, Nat.reduceEqDiff, ↓reduceIte]; rfl) ?_)))
        exact ⟨by rw [may_keep n s (by omega)], hE0_0⟩
      · try simp only [decide_eq_true_eq, decide_eq_false_iff_not, Bool.and_eq_true, Bool.or_eq_true, Bool.and_eq_false_iff, Bool.or_eq_false_iff, Bool.not_eq_true', Bool.not_eq_false', beq_iff_eq, bne_iff_ne] at hc3
        refine CW.seq (fun K9 h9 => ?_)
        refine CW.seq (fun K10 h10 => ?_)
        refine CW.region ?_
        refine r_eql rfl rfl rfl ?_
        refine r_assign rfl ?_
        refine LW.nil ?_
        refine thenE_norm (h10 _ _ ?_); clear h10; try clear K10
        refine CW.cond rfl (fun hc4 => ?_) (fun hc4 => ?_)
        · try simp only [decide_eq_true_eq, decide_eq_false_iff_not, Bool.and_eq_true, Bool.or_eq_true, Bool.and_eq_false_iff, Bool.or_eq_false_iff, Bool.not_eq_true', Bool.not_eq_false', beq_iff_eq, bne_iff_ne] at hc4
          refine CW.skip ?_
          refine thenE_norm (h9 _ _ ?_); clear h9; try clear K9
          refine CW.cond rfl (fun hc6 => ?_) (fun hc6 => ?_)
          · try simp only [decide_eq_true_eq, decide_eq_false_iff_not, Bool.and_eq_true, Bool.or_eq_true, Bool.and_eq_false_iff, Bool.or_eq_false_iff, Bool.not_eq_true', Bool.not_eq_false', beq_iff_eq, bne_iff_ne] at hc6
            refine CW.seq (fun K11 h11 => ?_)
            refine CW.region ?_
            refine r_fieldAddr rfl Try.underlying42 rfl Try.sizeOf3 (by decide) rfl ?_
            refine r_load rfl Try.isAgg3 rfl c1 ?_
            refine r_call rfl Try.call56 rfl (high_c n 1 _) ?_
            rintro _ w1 ⟨rfl, rfl⟩
            refine ⟨_, rfl, ?_⟩
            refine r_move rfl ?_
            refine' LW.grpAnd (n := 4) (ts := []) (d := 37) (tj := 33) rfl (fun hg10_4 => ?_) (fun hg10_4 => ?_) (fun σ => ?_)
            rotate_left
            · simp only [List.take_succ_cons, List.take_zero]
              have hg10_4P := hg10_4
              try simp only [decide_eq_true_eq, decide_eq_false_iff_not, Bool.and_eq_true, Bool.or_eq_true, Bool.and_eq_false_iff, Bool.or_eq_false_iff, Bool.not_eq_true', Bool.not_eq_false', beq_iff_eq, bne_iff_ne] at hg10_4P
              refine LW.want rfl rfl hg10_4 ?_
              refine r_fieldAddr rfl Try.underlying42 rfl Try.sizeOf9 (by decide) rfl ?_
              refine LW.want rfl rfl hg10_4 ?_
              refine r_load rfl Try.isAgg9 rfl c2 ?_
              refine LW.want rfl rfl hg10_4 ?_
              refine r_call rfl Try.call39 rfl (NameR_c s _) ?_
              rintro _ w2 ⟨rfl, rfl⟩
              refine ⟨_, rfl, ?_⟩
              refine r_pickT rfl rfl hg10_4 ?_
              refine LW.nil (thenE_norm ⟨rfl, rfl, rfl⟩)
            · simp only [List.take_succ_cons, List.take_zero]
              refine LW.skip rfl (fun _ e => by cases e; decide) rfl hg10_4 ?_
              refine LW.skip rfl (fun _ e => by cases e; decide) rfl hg10_4 ?_
              refine LW.skip rfl (fun _ e => by cases e; decide) rfl hg10_4 ?_
              refine r_pickF rfl rfl hg10_4 ?_
              refine LW.nil (thenE_norm ⟨rfl, rfl, rfl⟩)
            simp only [setL, keepE, upd_get, ev, Nat.reduceEqDiff, ↓reduceIte]; simp only [List.drop_succ_cons, List.drop_zero]
            refine r_assign rfl ?_
            refine LW.nil ?_
            refine thenE_norm (h11 _ _ ?_); clear h11; try clear K11
            refine CW.ret (blockE_ret (thenE_ret (ret1 Try.results37 (by simp only [upd_get, ev, Nat.reduceEqDiff, ↓reduceIte]; rfl) ?_)))
            exact ⟨by rw [may_lock n s (by omega)], hE0_0⟩
          · try simp only [decide_eq_true_eq, decide_eq_false_iff_not, Bool.and_eq_true, Bool.or_eq_true, Bool.and_eq_false_iff, Bool.or_eq_false_iff, Bool.not_eq_true', Bool.not_eq_false', beq_iff_eq, bne_iff_ne] at hc6
            refine CW.skip ?_
            refine blockE_norm ?_
            refine thenE_norm (h2 _ _ ?_); clear h2; try clear K2
            refine CW.seq (fun K12 h12 => ?_)
            refine CW.region ?_
            refine r_assign rfl ?_
            refine LW.nil ?_
            refine thenE_norm (h12 _ _ ?_); clear h12; try clear K12
            refine CW.ret (ret1 Try.results37 (by simp only [upd_get, ev, Nat.reduceEqDiff, ↓reduceIte]; rfl) ?_)
            exact ⟨by rw [may_out (by omega)], hE0_0⟩
        · try simp only [decide_eq_true_eq, decide_eq_false_iff_not, Bool.and_eq_true, Bool.or_eq_true, Bool.and_eq_false_iff, Bool.or_eq_false_iff, Bool.not_eq_true', Bool.not_eq_false', beq_iff_eq, bne_iff_ne] at hc4
          refine CW.seq (fun K13 h13 => ?_)
          refine CW.region ?_
          refine r_eql rfl rfl rfl ?_
          refine r_assign rfl ?_
          refine LW.nil ?_
          refine thenE_norm (h13 _ _ ?_); clear h13; try clear K13
          refine CW.cond rfl (fun hc5 => ?_) (fun hc5 => ?_)
          · try simp only [decide_eq_true_eq, decide_eq_false_iff_not, Bool.and_eq_true, Bool.or_eq_true, Bool.and_eq_false_iff, Bool.or_eq_false_iff, Bool.not_eq_true', Bool.not_eq_false', beq_iff_eq, bne_iff_ne] at hc5
            refine CW.skip ?_
            refine thenE_norm (h9 _ _ ?_); clear h9; try clear K9
            refine CW.cond rfl (fun hc6 => ?_) (fun hc6 => ?_)
            · try simp only [decide_eq_true_eq, decide_eq_false_iff_not, Bool.and_eq_true, Bool.or_eq_true, Bool.and_eq_false_iff, Bool.or_eq_false_iff, Bool.not_eq_true', Bool.not_eq_false', beq_iff_eq, bne_iff_ne] at hc6
              refine CW.seq (fun K14 h14 => ?_)
              refine CW.region ?_
              refine r_fieldAddr rfl Try.underlying42 rfl Try.sizeOf3 (by decide) rfl ?_
              refine r_load rfl Try.isAgg3 rfl c1 ?_
              refine r_call rfl Try.call56 rfl (high_c n 1 _) ?_
              rintro _ w1 ⟨rfl, rfl⟩
              refine ⟨_, rfl, ?_⟩
              refine r_move rfl ?_
              refine' LW.grpAnd (n := 4) (ts := []) (d := 37) (tj := 33) rfl (fun hg10_4 => ?_) (fun hg10_4 => ?_) (fun σ => ?_)
              rotate_left
              · simp only [List.take_succ_cons, List.take_zero]
                have hg10_4P := hg10_4
                try simp only [decide_eq_true_eq, decide_eq_false_iff_not, Bool.and_eq_true, Bool.or_eq_true, Bool.and_eq_false_iff, Bool.or_eq_false_iff, Bool.not_eq_true', Bool.not_eq_false', beq_iff_eq, bne_iff_ne] at hg10_4P
                refine LW.want rfl rfl hg10_4 ?_
                refine r_fieldAddr rfl Try.underlying42 rfl Try.sizeOf9 (by decide) rfl ?_
                refine LW.want rfl rfl hg10_4 ?_
                refine r_load rfl Try.isAgg9 rfl c2 ?_
                refine LW.want rfl rfl hg10_4 ?_
                refine r_call rfl Try.call39 rfl (NameR_c s _) ?_
                rintro _ w2 ⟨rfl, rfl⟩
                refine ⟨_, rfl, ?_⟩
                refine r_pickT rfl rfl hg10_4 ?_
                refine LW.nil (thenE_norm ⟨rfl, rfl, rfl⟩)
              · simp only [List.take_succ_cons, List.take_zero]
                refine LW.skip rfl (fun _ e => by cases e; decide) rfl hg10_4 ?_
                refine LW.skip rfl (fun _ e => by cases e; decide) rfl hg10_4 ?_
                refine LW.skip rfl (fun _ e => by cases e; decide) rfl hg10_4 ?_
                refine r_pickF rfl rfl hg10_4 ?_
                refine LW.nil (thenE_norm ⟨rfl, rfl, rfl⟩)
              simp only [setL, keepE, upd_get, ev, Nat.reduceEqDiff, ↓reduceIte]; simp only [List.drop_succ_cons, List.drop_zero]
              refine r_assign rfl ?_
              refine LW.nil ?_
              refine thenE_norm (h14 _ _ ?_); clear h14; try clear K14
              refine CW.ret (blockE_ret (thenE_ret (ret1 Try.results37 (by simp only [upd_get, ev, Nat.reduceEqDiff, ↓reduceIte]; rfl) ?_)))
              exact ⟨by rw [may_lock n s (by omega)], hE0_0⟩
            · try simp only [decide_eq_true_eq, decide_eq_false_iff_not, Bool.and_eq_true, Bool.or_eq_true, Bool.and_eq_false_iff, Bool.or_eq_false_iff, Bool.not_eq_true', Bool.not_eq_false', beq_iff_eq, bne_iff_ne] at hc6
              refine CW.skip ?_
              refine blockE_norm ?_
              refine thenE_norm (h2 _ _ ?_); clear h2; try clear K2
              refine CW.seq (fun K15 h15 => ?_)
              refine CW.region ?_
              refine r_assign rfl ?_
              refine LW.nil ?_
              refine thenE_norm (h15 _ _ ?_); clear h15; try clear K15
              refine CW.ret (ret1 Try.results37 (by simp only [upd_get, ev, Nat.reduceEqDiff, ↓reduceIte]; rfl) ?_)
              exact ⟨by rw [may_out (by omega)], hE0_0⟩
          · try simp only [decide_eq_true_eq, decide_eq_false_iff_not, Bool.and_eq_true, Bool.or_eq_true, Bool.and_eq_false_iff, Bool.or_eq_false_iff, Bool.not_eq_true', Bool.not_eq_false', beq_iff_eq, bne_iff_ne] at hc5
            refine CW.region ?_
            refine r_eql rfl rfl rfl ?_
            refine r_assign rfl ?_
            refine LW.nil ?_
            refine thenE_norm (h9 _ _ ?_); clear h9; try clear K9
            refine CW.cond rfl (fun hc6 => ?_) (fun hc6 => ?_)
            · try simp only [decide_eq_true_eq, decide_eq_false_iff_not, Bool.and_eq_true, Bool.or_eq_true, Bool.and_eq_false_iff, Bool.or_eq_false_iff, Bool.not_eq_true', Bool.not_eq_false', beq_iff_eq, bne_iff_ne] at hc6
              refine CW.seq (fun K16 h16 => ?_)
              refine CW.region ?_
              refine r_fieldAddr rfl Try.underlying42 rfl Try.sizeOf3 (by decide) rfl ?_
              refine r_load rfl Try.isAgg3 rfl c1 ?_
              refine r_call rfl Try.call56 rfl (high_c n 1 _) ?_
              rintro _ w1 ⟨rfl, rfl⟩
              refine ⟨_, rfl, ?_⟩
              refine r_move rfl ?_
              refine' LW.grpAnd (n := 4) (ts := []) (d := 37) (tj := 33) rfl (fun hg10_4 => ?_) (fun hg10_4 => ?_) (fun σ => ?_)
              rotate_left
              · simp only [List.take_succ_cons, List.take_zero]
                have hg10_4P := hg10_4
                try simp only [decide_eq_true_eq, decide_eq_false_iff_not, Bool.and_eq_true, Bool.or_eq_true, Bool.and_eq_false_iff, Bool.or_eq_false_iff, Bool.not_eq_true', Bool.not_eq_false', beq_iff_eq, bne_iff_ne] at hg10_4P
                refine LW.want rfl rfl hg10_4 ?_
                refine r_fieldAddr rfl Try.underlying42 rfl Try.sizeOf9 (by decide) rfl ?_
                refine LW.want rfl rfl hg10_4 ?_
                refine r_load rfl Try.isAgg9 rfl c2 ?_
                refine LW.want rfl rfl hg10_4 ?_
                refine r_call rfl Try.call39 rfl (NameR_c s _) ?_
                rintro _ w2 ⟨rfl, rfl⟩
                refine ⟨_, rfl, ?_⟩
                refine r_pickT rfl rfl hg10_4 ?_
                refine LW.nil (thenE_norm ⟨rfl, rfl, rfl⟩)
              · simp only [List.take_succ_cons, List.take_zero]
                refine LW.skip rfl (fun _ e => by cases e; decide) rfl hg10_4 ?_
                refine LW.skip rfl (fun _ e => by cases e; decide) rfl hg10_4 ?_
                refine LW.skip rfl (fun _ e => by cases e; decide) rfl hg10_4 ?_
                refine r_pickF rfl rfl hg10_4 ?_
                refine LW.nil (thenE_norm ⟨rfl, rfl, rfl⟩)
              simp only [setL, keepE, upd_get, ev, Nat.reduceEqDiff, ↓reduceIte]; simp only [List.drop_succ_cons, List.drop_zero]
              refine r_assign rfl ?_
              refine LW.nil ?_
              refine thenE_norm (h16 _ _ ?_); clear h16; try clear K16
              refine CW.ret (blockE_ret (thenE_ret (ret1 Try.results37 (by simp only [upd_get, ev, Nat.reduceEqDiff, ↓reduceIte]; rfl) ?_)))
              exact ⟨by rw [may_lock n s (by omega)], hE0_0⟩
            · try simp only [decide_eq_true_eq, decide_eq_false_iff_not, Bool.and_eq_true, Bool.or_eq_true, Bool.and_eq_false_iff, Bool.or_eq_false_iff, Bool.not_eq_true', Bool.not_eq_false', beq_iff_eq, bne_iff_ne] at hc6
              refine CW.skip ?_
              refine blockE_norm ?_
              refine thenE_norm (h2 _ _ ?_); clear h2; try clear K2
              refine CW.seq (fun K17 h17 => ?_)
              refine CW.region ?_
              refine r_assign rfl ?_
              refine LW.nil ?_
              refine thenE_norm (h17 _ _ ?_); clear h17; try clear K17
              refine CW.ret (ret1 Try.results37 (by simp only [upd_get, ev, Nat.reduceEqDiff, ↓reduceIte]; rfl) ?_)
              exact ⟨by rw [may_out (by omega)], hE0_0⟩
    · try simp only [decide_eq_true_eq, decide_eq_false_iff_not, Bool.and_eq_true, Bool.or_eq_true, Bool.and_eq_false_iff, Bool.or_eq_false_iff, Bool.not_eq_true', Bool.not_eq_false', beq_iff_eq, bne_iff_ne] at hc2
      refine CW.region ?_
      refine r_eql rfl rfl rfl ?_
      refine r_assign rfl ?_
      refine LW.nil ?_
      refine thenE_norm (h6 _ _ ?_); clear h6; try clear K6
      refine CW.cond rfl (fun hc3 => ?_) (fun hc3 => ?_)
      · try simp only [decide_eq_true_eq, decide_eq_false_iff_not, Bool.and_eq_true, Bool.or_eq_true, Bool.and_eq_false_iff, Bool.or_eq_false_iff, Bool.not_eq_true', Bool.not_eq_false', beq_iff_eq, bne_iff_ne] at hc3
        refine CW.seq (fun K18 h18 => ?_)
        refine CW.region ?_
        refine r_fieldAddr rfl Try.underlying42 rfl Try.sizeOf3 (by decide) rfl ?_
        refine r_load rfl Try.isAgg3 rfl c1 ?_
        refine r_call rfl Try.call56 rfl (high_c n 1 _) ?_
        rintro _ w1 ⟨rfl, rfl⟩
        refine ⟨_, rfl, ?_⟩
        refine r_move rfl ?_
        refine' LW.grpAnd (n := 4) (ts := []) (d := 25) (tj := 21) rfl (fun hg6_4 => ?_) (fun hg6_4 => ?_) (fun σ => ?_)
        rotate_left
        · simp only [List.take_succ_cons, List.take_zero]
          have hg6_4P := hg6_4
          try simp only [decide_eq_true_eq, decide_eq_false_iff_not, Bool.and_eq_true, Bool.or_eq_true, Bool.and_eq_false_iff, Bool.or_eq_false_iff, Bool.not_eq_true', Bool.not_eq_false', beq_iff_eq, bne_iff_ne] at hg6_4P
          refine LW.want rfl rfl hg6_4 ?_
          refine r_fieldAddr rfl Try.underlying42 rfl Try.sizeOf9 (by decide) rfl ?_
          refine LW.want rfl rfl hg6_4 ?_
          refine r_load rfl Try.isAgg9 rfl c2 ?_
          refine LW.want rfl rfl hg6_4 ?_
          refine r_eqlS rfl rfl rfl ?_
          refine r_pickT rfl rfl hg6_4 ?_
          refine LW.nil (thenE_norm ⟨rfl, rfl, rfl⟩)
        · simp only [List.take_succ_cons, List.take_zero]
          refine LW.skip rfl (fun _ e => by cases e; decide) rfl hg6_4 ?_
          refine LW.skip rfl (fun _ e => by cases e; decide) rfl hg6_4 ?_
          refine LW.skip rfl (fun _ e => by cases e; decide) rfl hg6_4 ?_
          refine r_pickF rfl rfl hg6_4 ?_
          refine LW.nil (thenE_norm ⟨rfl, rfl, rfl⟩)
        simp only [setL, keepE, upd_get, ev, Nat.reduceEqDiff, ↓reduceIte]; simp only [List.drop_succ_cons, List.drop_zero]
        refine r_assign rfl ?_
        refine LW.nil ?_
        refine thenE_norm (h18 _ _ ?_); clear h18; try clear K18
        refine CW.ret (blockE_ret (thenE_ret (ret1 Try.results37 (by simp only [upd_get, ev, Nat.reduceEqDiff, ↓reduceIte]; rfl) ?_)))
        exact ⟨by rw [may_keep n s (by omega)], hE0_0⟩
      · try simp only [decide_eq_true_eq, decide_eq_false_iff_not, Bool.and_eq_true, Bool.or_eq_true, Bool.and_eq_false_iff, Bool.or_eq_false_iff, Bool.not_eq_true', Bool.not_eq_false', beq_iff_eq, bne_iff_ne] at hc3
        refine CW.seq (fun K19 h19 => ?_)
        refine CW.seq (fun K20 h20 => ?_)
        refine CW.region ?_
        refine r_eql rfl rfl rfl ?_
        refine r_assign rfl ?_
        refine LW.nil ?_
        refine thenE_norm (h20 _ _ ?_); clear h20; try clear K20
        refine CW.cond rfl (fun hc4 => ?_) (fun hc4 => ?_)
        · try simp only [decide_eq_true_eq, decide_eq_false_iff_not, Bool.and_eq_true, Bool.or_eq_true, Bool.and_eq_false_iff, Bool.or_eq_false_iff, Bool.not_eq_true', Bool.not_eq_false', beq_iff_eq, bne_iff_ne] at hc4
          refine CW.skip ?_
          refine thenE_norm (h19 _ _ ?_); clear h19; try clear K19
          refine CW.cond rfl (fun hc6 => ?_) (fun hc6 => ?_)
          · try simp only [decide_eq_true_eq, decide_eq_false_iff_not, Bool.and_eq_true, Bool.or_eq_true, Bool.and_eq_false_iff, Bool.or_eq_false_iff, Bool.not_eq_true', Bool.not_eq_false', beq_iff_eq, bne_iff_ne] at hc6
            refine CW.seq (fun K21 h21 => ?_)
            refine CW.region ?_
            refine r_fieldAddr rfl Try.underlying42 rfl Try.sizeOf3 (by decide) rfl ?_
            refine r_load rfl Try.isAgg3 rfl c1 ?_
            refine r_call rfl Try.call56 rfl (high_c n 1 _) ?_
            rintro _ w1 ⟨rfl, rfl⟩
            refine ⟨_, rfl, ?_⟩
            refine r_move rfl ?_
            refine' LW.grpAnd (n := 4) (ts := []) (d := 37) (tj := 33) rfl (fun hg10_4 => ?_) (fun hg10_4 => ?_) (fun σ => ?_)
            rotate_left
            · simp only [List.take_succ_cons, List.take_zero]
              have hg10_4P := hg10_4
              try simp only [decide_eq_true_eq, decide_eq_false_iff_not, Bool.and_eq_true, Bool.or_eq_true, Bool.and_eq_false_iff, Bool.or_eq_false_iff, Bool.not_eq_true', Bool.not_eq_false', beq_iff_eq, bne_iff_ne] at hg10_4P
              refine LW.want rfl rfl hg10_4 ?_
              refine r_fieldAddr rfl Try.underlying42 rfl Try.sizeOf9 (by decide) rfl ?_
              refine LW.want rfl rfl hg10_4 ?_
              refine r_load rfl Try.isAgg9 rfl c2 ?_
              refine LW.want rfl rfl hg10_4 ?_
              refine r_call rfl Try.call39 rfl (NameR_c s _) ?_
              rintro _ w2 ⟨rfl, rfl⟩
              refine ⟨_, rfl, ?_⟩
              refine r_pickT rfl rfl hg10_4 ?_
              refine LW.nil (thenE_norm ⟨rfl, rfl, rfl⟩)
            · simp only [List.take_succ_cons, List.take_zero]
              refine LW.skip rfl (fun _ e => by cases e; decide) rfl hg10_4 ?_
              refine LW.skip rfl (fun _ e => by cases e; decide) rfl hg10_4 ?_
              refine LW.skip rfl (fun _ e => by cases e; decide) rfl hg10_4 ?_
              refine r_pickF rfl rfl hg10_4 ?_
              refine LW.nil (thenE_norm ⟨rfl, rfl, rfl⟩)
            simp only [setL, keepE, upd_get, ev, Nat.reduceEqDiff, ↓reduceIte]; simp only [List.drop_succ_cons, List.drop_zero]
            refine r_assign rfl ?_
            refine LW.nil ?_
            refine thenE_norm (h21 _ _ ?_); clear h21; try clear K21
            refine CW.ret (blockE_ret (thenE_ret (ret1 Try.results37 (by simp only [upd_get, ev, Nat.reduceEqDiff, ↓reduceIte]; rfl) ?_)))
            exact ⟨by rw [may_lock n s (by omega)], hE0_0⟩
          · try simp only [decide_eq_true_eq, decide_eq_false_iff_not, Bool.and_eq_true, Bool.or_eq_true, Bool.and_eq_false_iff, Bool.or_eq_false_iff, Bool.not_eq_true', Bool.not_eq_false', beq_iff_eq, bne_iff_ne] at hc6
            refine CW.skip ?_
            refine blockE_norm ?_
            refine thenE_norm (h2 _ _ ?_); clear h2; try clear K2
            refine CW.seq (fun K22 h22 => ?_)
            refine CW.region ?_
            refine r_assign rfl ?_
            refine LW.nil ?_
            refine thenE_norm (h22 _ _ ?_); clear h22; try clear K22
            refine CW.ret (ret1 Try.results37 (by simp only [upd_get, ev, Nat.reduceEqDiff, ↓reduceIte]; rfl) ?_)
            exact ⟨by rw [may_out (by omega)], hE0_0⟩
        · try simp only [decide_eq_true_eq, decide_eq_false_iff_not, Bool.and_eq_true, Bool.or_eq_true, Bool.and_eq_false_iff, Bool.or_eq_false_iff, Bool.not_eq_true', Bool.not_eq_false', beq_iff_eq, bne_iff_ne] at hc4
          refine CW.seq (fun K23 h23 => ?_)
          refine CW.region ?_
          refine r_eql rfl rfl rfl ?_
          refine r_assign rfl ?_
          refine LW.nil ?_
          refine thenE_norm (h23 _ _ ?_); clear h23; try clear K23
          refine CW.cond rfl (fun hc5 => ?_) (fun hc5 => ?_)
          · try simp only [decide_eq_true_eq, decide_eq_false_iff_not, Bool.and_eq_true, Bool.or_eq_true, Bool.and_eq_false_iff, Bool.or_eq_false_iff, Bool.not_eq_true', Bool.not_eq_false', beq_iff_eq, bne_iff_ne] at hc5
            refine CW.skip ?_
            refine thenE_norm (h19 _ _ ?_); clear h19; try clear K19
            refine CW.cond rfl (fun hc6 => ?_) (fun hc6 => ?_)
            · try simp only [decide_eq_true_eq, decide_eq_false_iff_not, Bool.and_eq_true, Bool.or_eq_true, Bool.and_eq_false_iff, Bool.or_eq_false_iff, Bool.not_eq_true', Bool.not_eq_false', beq_iff_eq, bne_iff_ne] at hc6
              refine CW.seq (fun K24 h24 => ?_)
              refine CW.region ?_
              refine r_fieldAddr rfl Try.underlying42 rfl Try.sizeOf3 (by decide) rfl ?_
              refine r_load rfl Try.isAgg3 rfl c1 ?_
              refine r_call rfl Try.call56 rfl (high_c n 1 _) ?_
              rintro _ w1 ⟨rfl, rfl⟩
              refine ⟨_, rfl, ?_⟩
              refine r_move rfl ?_
              refine' LW.grpAnd (n := 4) (ts := []) (d := 37) (tj := 33) rfl (fun hg10_4 => ?_) (fun hg10_4 => ?_) (fun σ => ?_)
              rotate_left
              · simp only [List.take_succ_cons, List.take_zero]
                have hg10_4P := hg10_4
                try simp only [decide_eq_true_eq, decide_eq_false_iff_not, Bool.and_eq_true, Bool.or_eq_true, Bool.and_eq_false_iff, Bool.or_eq_false_iff, Bool.not_eq_true', Bool.not_eq_false', beq_iff_eq, bne_iff_ne] at hg10_4P
                refine LW.want rfl rfl hg10_4 ?_
                refine r_fieldAddr rfl Try.underlying42 rfl Try.sizeOf9 (by decide) rfl ?_
                refine LW.want rfl rfl hg10_4 ?_
                refine r_load rfl Try.isAgg9 rfl c2 ?_
                refine LW.want rfl rfl hg10_4 ?_
                refine r_call rfl Try.call39 rfl (NameR_c s _) ?_
                rintro _ w2 ⟨rfl, rfl⟩
                refine ⟨_, rfl, ?_⟩
                refine r_pickT rfl rfl hg10_4 ?_
                refine LW.nil (thenE_norm ⟨rfl, rfl, rfl⟩)
              · simp only [List.take_succ_cons, List.take_zero]
                refine LW.skip rfl (fun _ e => by cases e; decide) rfl hg10_4 ?_
                refine LW.skip rfl (fun _ e => by cases e; decide) rfl hg10_4 ?_
                refine LW.skip rfl (fun _ e => by cases e; decide) rfl hg10_4 ?_
                refine r_pickF rfl rfl hg10_4 ?_
                refine LW.nil (thenE_norm ⟨rfl, rfl, rfl⟩)
              simp only [setL, keepE, upd_get, ev, Nat.reduceEqDiff, ↓reduceIte]; simp only [List.drop_succ_cons, List.drop_zero]
              refine r_assign rfl ?_
              refine LW.nil ?_
              refine thenE_norm (h24 _ _ ?_); clear h24; try clear K24
              refine CW.ret (blockE_ret (thenE_ret (ret1 Try.results37 (by simp only [upd_get, ev, Nat.reduceEqDiff, ↓reduceIte]; rfl) ?_)))
              exact ⟨by rw [may_lock n s (by omega)], hE0_0⟩
            · try simp only [decide_eq_true_eq, decide_eq_false_iff_not, Bool.and_eq_true, Bool.or_eq_true, Bool.and_eq_false_iff, Bool.or_eq_false_iff, Bool.not_eq_true', Bool.not_eq_false', beq_iff_eq, bne_iff_ne] at hc6
              refine CW.skip ?_
              refine blockE_norm ?_
              refine thenE_norm (h2 _ _ ?_); clear h2; try clear K2
              refine CW.seq (fun K25 h25 => ?_)
              refine CW.region ?_
              refine r_assign rfl ?_
              refine LW.nil ?_
              refine thenE_norm (h25 _ _ ?_); clear h25; try clear K25
              refine CW.ret (ret1 Try.results37 (by simp only [upd_get, ev, Nat.reduceEqDiff, ↓reduceIte]; rfl) ?_)
              exact ⟨by rw [may_out (by omega)], hE0_0⟩
          · try simp only [decide_eq_true_eq, decide_eq_false_iff_not, Bool.and_eq_true, Bool.or_eq_true, Bool.and_eq_false_iff, Bool.or_eq_false_iff, Bool.not_eq_true', Bool.not_eq_false', beq_iff_eq, bne_iff_ne] at hc5
            refine CW.region ?_
            refine r_eql rfl rfl rfl ?_
            refine r_assign rfl ?_
            refine LW.nil ?_
            refine thenE_norm ?_
            refine cut (K := K19) [1, 26] (fun σ => ?_)
            simp only [setL, keepE, upd_get, ev, Nat.reduceEqDiff, ↓reduceIte]
            refine h19 _ _ ?_; clear h19; try clear K19
            refine CW.cond rfl (fun hc6 => ?_) (fun hc6 => ?_)
            · try simp only [decide_eq_true_eq, decide_eq_false_iff_not, Bool.and_eq_true, Bool.or_eq_true, Bool.and_eq_false_iff, Bool.or_eq_false_iff, Bool.not_eq_true', Bool.not_eq_false', beq_iff_eq, bne_iff_ne] at hc6
              refine CW.seq (fun K26 h26 => ?_)
              refine CW.region ?_
              refine r_fieldAddr rfl Try.underlying42 rfl Try.sizeOf3 (by decide) rfl ?_
              refine r_load rfl Try.isAgg3 rfl c1 ?_
              refine r_call rfl Try.call56 rfl (high_c n 1 _) ?_
              rintro _ w1 ⟨rfl, rfl⟩
              refine ⟨_, rfl, ?_⟩
              refine r_move rfl ?_
              refine' LW.grpAnd (n := 4) (ts := []) (d := 37) (tj := 33) rfl (fun hg10_4 => ?_) (fun hg10_4 => ?_) (fun σ => ?_)
              rotate_left
              · simp only [List.take_succ_cons, List.take_zero]
                have hg10_4P := hg10_4
                try simp only [decide_eq_true_eq, decide_eq_false_iff_not, Bool.and_eq_true, Bool.or_eq_true, Bool.and_eq_false_iff, Bool.or_eq_false_iff, Bool.not_eq_true', Bool.not_eq_false', beq_iff_eq, bne_iff_ne] at hg10_4P
                refine LW.want rfl rfl hg10_4 ?_
                refine r_fieldAddr rfl Try.underlying42 rfl Try.sizeOf9 (by decide) rfl ?_
                refine LW.want rfl rfl hg10_4 ?_
                refine r_load rfl Try.isAgg9 rfl c2 ?_
                refine LW.want rfl rfl hg10_4 ?_
                refine r_call rfl Try.call39 rfl (NameR_c s _) ?_
                rintro _ w2 ⟨rfl, rfl⟩
                refine ⟨_, rfl, ?_⟩
                refine r_pickT rfl rfl hg10_4 ?_
                refine LW.nil (thenE_norm ⟨rfl, rfl, rfl⟩)
              · simp only [List.take_succ_cons, List.take_zero]
                refine LW.skip rfl (fun _ e => by cases e; decide) rfl hg10_4 ?_
                refine LW.skip rfl (fun _ e => by cases e; decide) rfl hg10_4 ?_
                refine LW.skip rfl (fun _ e => by cases e; decide) rfl hg10_4 ?_
                refine r_pickF rfl rfl hg10_4 ?_
                refine LW.nil (thenE_norm ⟨rfl, rfl, rfl⟩)
              simp only [setL, keepE, upd_get, ev, Nat.reduceEqDiff, ↓reduceIte]; simp only [List.drop_succ_cons, List.drop_zero]
              refine r_assign rfl ?_
              refine LW.nil ?_
              refine thenE_norm (h26 _ _ ?_); clear h26; try clear K26
              refine CW.ret (blockE_ret (thenE_ret (ret1 Try.results37 (by simp only [upd_get, ev, Nat.reduceEqDiff, ↓reduceIte]; rfl) ?_)))
              exact ⟨by rw [may_lock n s (by omega)], hE0_0⟩
            · try simp only [decide_eq_true_eq, decide_eq_false_iff_not, Bool.and_eq_true, Bool.or_eq_true, Bool.and_eq_false_iff, Bool.or_eq_false_iff, Bool.not_eq_true', Bool.not_eq_false', beq_iff_eq, bne_iff_ne] at hc6
              refine CW.skip ?_
              refine blockE_norm ?_
              refine thenE_norm (h2 _ _ ?_); clear h2; try clear K2
              refine CW.seq (fun K27 h27 => ?_)
              refine CW.region ?_
              refine r_assign rfl ?_
              refine LW.nil ?_
              refine thenE_norm (h27 _ _ ?_); clear h27; try clear K27
              refine CW.ret (ret1 Try.results37 (by simp only [upd_get, ev, Nat.reduceEqDiff, ↓reduceIte]; rfl) ?_)
              exact ⟨by rw [may_out (by omega)], hE0_0⟩
theorem MayReq_c (c q k n : Int) (s : ByteArray) (w : World) (hs : s.size ≤ 9223372036854775807) :
    Calls Try.prog 45 #[reqV c q k n s] w fun e w' => e = .returned (.bool (mayReqM c q k n s.data.toList)) ∧ Ext0 w w' := by
  refine calls_of_CW Try.func45 rfl Try.ntmps45 (Nat.le_of_ble_eq_true rfl) ?_
  simp only [argE, argFrom, Nat.reduceAdd]
  refine CW.seq (fun K1 h1 => ?_)
  refine CW.region ?_
  refine r_box rfl (by simp only [upd_get, ev, Nat.reduceEqDiff, ↓reduceIte] <;> rfl) rfl ?_
  intro b0_0 w0_0 hb0_0 hs0_0 hE0_0 hB0_0
  have hB : Blk w0_0 b0_0 53 (reqL c q k n s) := hB0_0
  have c0 := hB.cell (o := 0) rfl
  have c1 := hB.cell (o := 1) rfl
  refine r_assign rfl ?_
  refine LW.nil ?_
  refine thenE_norm (h1 _ _ ?_); clear h1; try clear K1
  refine CW.seq (fun K2 h2 => ?_)
  refine CW.region ?_
  refine r_fieldAddr rfl Try.underlying53 rfl Try.sizeOf3 (by decide) rfl ?_
  refine r_load rfl Try.isAgg3 rfl c0 ?_
  refine r_geq rfl rfl rfl ?_
  refine r_move rfl ?_
  refine' LW.grpAnd (n := 4) (ts := [1, 11, 16, 21]) (d := 10) (tj := 6) rfl (fun hg1_4 => ?_) (fun hg1_4 => ?_) (fun σ => ?_)
  rotate_left
  · simp only [List.take_succ_cons, List.take_zero]
    have hg1_4P := hg1_4
    try simp only [decide_eq_true_eq, decide_eq_false_iff_not, Bool.and_eq_true, Bool.or_eq_true, Bool.and_eq_false_iff, Bool.or_eq_false_iff, Bool.not_eq_true', Bool.not_eq_false', beq_iff_eq, bne_iff_ne] at hg1_4P
    refine LW.want rfl rfl hg1_4 ?_
    refine r_fieldAddr rfl Try.underlying53 rfl Try.sizeOf3 (by decide) rfl ?_
    refine LW.want rfl rfl hg1_4 ?_
    refine r_load rfl Try.isAgg3 rfl c0 ?_
    refine LW.want rfl rfl hg1_4 ?_
    refine r_lss rfl rfl rfl ?_
    refine r_pickT rfl rfl hg1_4 ?_
    refine LW.nil (thenE_norm ⟨rfl, rfl, rfl⟩)
  · simp only [List.take_succ_cons, List.take_zero]
    refine LW.skip rfl (fun _ e => by cases e; decide) rfl hg1_4 ?_
    refine LW.skip rfl (fun _ e => by cases e; decide) rfl hg1_4 ?_
    refine LW.skip rfl (fun _ e => by cases e; decide) rfl hg1_4 ?_
    refine r_pickF rfl rfl hg1_4 ?_
    refine LW.nil (thenE_norm ⟨rfl, rfl, rfl⟩)
  simp only [setL, keepE, upd_get, ev, Nat.reduceEqDiff, ↓reduceIte]; simp only [List.drop_succ_cons, List.drop_zero]
  refine r_move rfl ?_
  refine' LW.grpAnd (n := 4) (ts := [1, 16, 21]) (d := 15) (tj := 11) rfl (fun hg1_9 => ?_) (fun hg1_9 => ?_) (fun σ => ?_)
  rotate_left
  · simp only [List.take_succ_cons, List.take_zero]
    have hg1_9P := hg1_9
    try simp only [decide_eq_true_eq, decide_eq_false_iff_not, Bool.and_eq_true, Bool.or_eq_true, Bool.and_eq_false_iff, Bool.or_eq_false_iff, Bool.not_eq_true', Bool.not_eq_false', beq_iff_eq, bne_iff_ne] at hg1_9P
    refine LW.want rfl rfl hg1_9 ?_
    refine r_fieldAddr rfl Try.underlying53 rfl Try.sizeOf3 (by decide) rfl ?_
    refine LW.want rfl rfl hg1_9 ?_
    refine r_load rfl Try.isAgg3 rfl c1 ?_
    refine LW.want rfl rfl hg1_9 ?_
    refine r_geq rfl rfl rfl ?_
    refine r_pickT rfl rfl hg1_9 ?_
    refine LW.nil (thenE_norm ⟨rfl, rfl, rfl⟩)
  · simp only [List.take_succ_cons, List.take_zero]
    refine LW.skip rfl (fun _ e => by cases e; decide) rfl hg1_9 ?_
    refine LW.skip rfl (fun _ e => by cases e; decide) rfl hg1_9 ?_
    refine LW.skip rfl (fun _ e => by cases e; decide) rfl hg1_9 ?_
    refine r_pickF rfl rfl hg1_9 ?_
    refine LW.nil (thenE_norm ⟨rfl, rfl, rfl⟩)
  simp only [setL, keepE, upd_get, ev, Nat.reduceEqDiff, ↓reduceIte]; simp only [List.drop_succ_cons, List.drop_zero]
  refine r_move rfl ?_
  refine' LW.grpAnd (n := 4) (ts := [1, 21]) (d := 20) (tj := 16) rfl (fun hg1_14 => ?_) (fun hg1_14 => ?_) (fun σ => ?_)
  rotate_left
  · simp only [List.take_succ_cons, List.take_zero]
    have hg1_14P := hg1_14
    try simp only [decide_eq_true_eq, decide_eq_false_iff_not, Bool.and_eq_true, Bool.or_eq_true, Bool.and_eq_false_iff, Bool.or_eq_false_iff, Bool.not_eq_true', Bool.not_eq_false', beq_iff_eq, bne_iff_ne] at hg1_14P
    refine LW.want rfl rfl hg1_14 ?_
    refine r_fieldAddr rfl Try.underlying53 rfl Try.sizeOf3 (by decide) rfl ?_
    refine LW.want rfl rfl hg1_14 ?_
    refine r_load rfl Try.isAgg3 rfl c1 ?_
    refine LW.want rfl rfl hg1_14 ?_
    refine r_leq rfl rfl rfl ?_
    refine r_pickT rfl rfl hg1_14 ?_
    refine LW.nil (thenE_norm ⟨rfl, rfl, rfl⟩)
  · simp only [List.take_succ_cons, List.take_zero]
    refine LW.skip rfl (fun _ e => by cases e; decide) rfl hg1_14 ?_
    refine LW.skip rfl (fun _ e => by cases e; decide) rfl hg1_14 ?_
    refine LW.skip rfl (fun _ e => by cases e; decide) rfl hg1_14 ?_
    refine r_pickF rfl rfl hg1_14 ?_
    refine LW.nil (thenE_norm ⟨rfl, rfl, rfl⟩)
  simp only [setL, keepE, upd_get, ev, Nat.reduceEqDiff, ↓reduceIte]; simp only [List.drop_succ_cons, List.drop_zero]
  refine r_move rfl ?_
  refine LW.splitB (t := 21) rfl (fun hg1_19 => ?_) (fun hg1_19 => ?_)
  · have hg1_19P := hg1_19
    try simp only [decide_eq_true_eq, decide_eq_false_iff_not, Bool.and_eq_true, Bool.or_eq_true, Bool.and_eq_false_iff, Bool.or_eq_false_iff, Bool.not_eq_true', Bool.not_eq_false', beq_iff_eq, bne_iff_ne] at hg1_19P
    refine LW.want rfl rfl hg1_19 ?_
    refine r_fieldAddr rfl Try.underlying53 rfl Try.sizeOf42 (by decide) rfl ?_
    refine LW.want rfl rfl hg1_19 ?_
    refine r_loadA rfl Try.isAgg42 Try.sizeOf42 rfl (Blk.cells (pre := [.int .i64 c, .int .i64 q]) (cs := cmdL k n s) (post := []) hB) rfl ?_
    refine LW.want rfl rfl hg1_19 ?_
    refine r_call rfl Try.call36 rfl (May_c k n s _ hs) ?_
    rintro _ w1 ⟨rfl, hE1⟩
    refine ⟨_, rfl, ?_⟩
    refine r_pickT rfl rfl hg1_19 ?_
    refine r_assign rfl ?_
    refine LW.nil ?_
    refine thenE_norm (h2 _ _ ?_); clear h2; try clear K2
    refine CW.ret (ret1 Try.results45 (by simp only [upd_get, ev, Nat.reduceEqDiff, ↓reduceIte]; rfl) ?_)
    first
      | exact ⟨by rw [mayReqM, hg1_19, Bool.true_and], hE0_0.trans hE1⟩
      | exact ⟨by rw [mayReqM, hg1_19, Bool.false_and], hE0_0⟩
  · have hg1_19P := hg1_19
    try simp only [decide_eq_true_eq, decide_eq_false_iff_not, Bool.and_eq_true, Bool.or_eq_true, Bool.and_eq_false_iff, Bool.or_eq_false_iff, Bool.not_eq_true', Bool.not_eq_false', beq_iff_eq, bne_iff_ne] at hg1_19P
    refine LW.skip rfl (fun _ e => by cases e; decide) rfl hg1_19 ?_
    refine LW.skip rfl (fun _ e => by cases e; decide) rfl hg1_19 ?_
    refine LW.skip rfl (fun _ e => by cases e; decide) rfl hg1_19 ?_
    refine r_pickF rfl rfl hg1_19 ?_
    refine r_assign rfl ?_
    refine LW.nil ?_
    refine thenE_norm (h2 _ _ ?_); clear h2; try clear K2
    refine CW.ret (ret1 Try.results45 (by simp only [upd_get, ev, Nat.reduceEqDiff, ↓reduceIte]; rfl) ?_)
    first
      | exact ⟨by rw [mayReqM, hg1_19, Bool.true_and], hE0_0.trans hE1⟩
      | exact ⟨by rw [mayReqM, hg1_19, Bool.false_and], hE0_0⟩

theorem MayReqR_c (c q k n : Int) (s : ByteArray) (w : World) :
    Calls Try.prog 46 #[reqV c q k n s] w fun e w' => e = .returned (.bool (mayReqM c q k n s.data.toList)) ∧ Ext0 w w' := by
  refine calls_of_CW Try.func46 rfl Try.ntmps46 (Nat.le_of_ble_eq_true rfl) ?_
  simp only [argE, argFrom, Nat.reduceAdd]
  refine CW.seq (fun K1 h1 => ?_)
  refine CW.region ?_
  refine r_box rfl (by simp only [upd_get, ev, Nat.reduceEqDiff, ↓reduceIte] <;> rfl) rfl ?_
  intro b0_0 w0_0 hb0_0 hs0_0 hE0_0 hB0_0
  have hB : Blk w0_0 b0_0 53 (reqL c q k n s) := hB0_0
  have c0 := hB.cell (o := 0) rfl
  have c1 := hB.cell (o := 1) rfl
  refine r_assign rfl ?_
  refine LW.nil ?_
  refine thenE_norm (h1 _ _ ?_); clear h1; try clear K1
  refine CW.seq (fun K2 h2 => ?_)
  refine CW.region ?_
  refine r_fieldAddr rfl Try.underlying53 rfl Try.sizeOf3 (by decide) rfl ?_
  refine r_load rfl Try.isAgg3 rfl c0 ?_
  refine r_geq rfl rfl rfl ?_
  refine r_move rfl ?_
  refine' LW.grpAnd (n := 4) (ts := [1, 11, 16]) (d := 10) (tj := 6) rfl (fun hg1_4 => ?_) (fun hg1_4 => ?_) (fun σ => ?_)
  rotate_left
  · simp only [List.take_succ_cons, List.take_zero]
    have hg1_4P := hg1_4
    try simp only [decide_eq_true_eq, decide_eq_false_iff_not, Bool.and_eq_true, Bool.or_eq_true, Bool.and_eq_false_iff, Bool.or_eq_false_iff, Bool.not_eq_true', Bool.not_eq_false', beq_iff_eq, bne_iff_ne] at hg1_4P
    refine LW.want rfl rfl hg1_4 ?_
    refine r_fieldAddr rfl Try.underlying53 rfl Try.sizeOf3 (by decide) rfl ?_
    refine LW.want rfl rfl hg1_4 ?_
    refine r_load rfl Try.isAgg3 rfl c0 ?_
    refine LW.want rfl rfl hg1_4 ?_
    refine r_lss rfl rfl rfl ?_
    refine r_pickT rfl rfl hg1_4 ?_
    refine LW.nil (thenE_norm ⟨rfl, rfl, rfl⟩)
  · simp only [List.take_succ_cons, List.take_zero]
    refine LW.skip rfl (fun _ e => by cases e; decide) rfl hg1_4 ?_
    refine LW.skip rfl (fun _ e => by cases e; decide) rfl hg1_4 ?_
    refine LW.skip rfl (fun _ e => by cases e; decide) rfl hg1_4 ?_
    refine r_pickF rfl rfl hg1_4 ?_
    refine LW.nil (thenE_norm ⟨rfl, rfl, rfl⟩)
  simp only [setL, keepE, upd_get, ev, Nat.reduceEqDiff, ↓reduceIte]; simp only [List.drop_succ_cons, List.drop_zero]
  refine r_move rfl ?_
  refine' LW.grpAnd (n := 4) (ts := [1, 16]) (d := 15) (tj := 11) rfl (fun hg1_9 => ?_) (fun hg1_9 => ?_) (fun σ => ?_)
  rotate_left
  · simp only [List.take_succ_cons, List.take_zero]
    have hg1_9P := hg1_9
    try simp only [decide_eq_true_eq, decide_eq_false_iff_not, Bool.and_eq_true, Bool.or_eq_true, Bool.and_eq_false_iff, Bool.or_eq_false_iff, Bool.not_eq_true', Bool.not_eq_false', beq_iff_eq, bne_iff_ne] at hg1_9P
    refine LW.want rfl rfl hg1_9 ?_
    refine r_fieldAddr rfl Try.underlying53 rfl Try.sizeOf3 (by decide) rfl ?_
    refine LW.want rfl rfl hg1_9 ?_
    refine r_load rfl Try.isAgg3 rfl c1 ?_
    refine LW.want rfl rfl hg1_9 ?_
    refine r_call rfl Try.call56 rfl (high_c q 1 _) ?_
    rintro _ w2 ⟨rfl, rfl⟩
    refine ⟨_, rfl, ?_⟩
    refine r_pickT rfl rfl hg1_9 ?_
    refine LW.nil (thenE_norm ⟨rfl, rfl, rfl⟩)
  · simp only [List.take_succ_cons, List.take_zero]
    refine LW.skip rfl (fun _ e => by cases e; decide) rfl hg1_9 ?_
    refine LW.skip rfl (fun _ e => by cases e; decide) rfl hg1_9 ?_
    refine LW.skip rfl (fun _ e => by cases e; decide) rfl hg1_9 ?_
    refine r_pickF rfl rfl hg1_9 ?_
    refine LW.nil (thenE_norm ⟨rfl, rfl, rfl⟩)
  simp only [setL, keepE, upd_get, ev, Nat.reduceEqDiff, ↓reduceIte]; simp only [List.drop_succ_cons, List.drop_zero]
  refine r_move rfl ?_
  refine LW.splitB (t := 16) rfl (fun hg1_14 => ?_) (fun hg1_14 => ?_)
  · have hg1_14P := hg1_14
    try simp only [decide_eq_true_eq, decide_eq_false_iff_not, Bool.and_eq_true, Bool.or_eq_true, Bool.and_eq_false_iff, Bool.or_eq_false_iff, Bool.not_eq_true', Bool.not_eq_false', beq_iff_eq, bne_iff_ne] at hg1_14P
    refine LW.want rfl rfl hg1_14 ?_
    refine r_fieldAddr rfl Try.underlying53 rfl Try.sizeOf42 (by decide) rfl ?_
    refine LW.want rfl rfl hg1_14 ?_
    refine r_loadA rfl Try.isAgg42 Try.sizeOf42 rfl (Blk.cells (pre := [.int .i64 c, .int .i64 q]) (cs := cmdL k n s) (post := []) hB) rfl ?_
    refine LW.want rfl rfl hg1_14 ?_
    refine r_call rfl Try.call37 rfl (MayR_c k n s _) ?_
    rintro _ w1 ⟨rfl, hE1⟩
    refine ⟨_, rfl, ?_⟩
    refine r_pickT rfl rfl hg1_14 ?_
    refine r_assign rfl ?_
    refine LW.nil ?_
    refine thenE_norm (h2 _ _ ?_); clear h2; try clear K2
    refine CW.ret (ret1 Try.results46 (by simp only [upd_get, ev, Nat.reduceEqDiff, ↓reduceIte]; rfl) ?_)
    first
      | exact ⟨by rw [mayReqM]; rw [highM, ← Bool.and_assoc] at hg1_14; rw [hg1_14, Bool.true_and], hE0_0.trans hE1⟩
      | exact ⟨by rw [mayReqM]; rw [highM, ← Bool.and_assoc] at hg1_14; rw [hg1_14, Bool.false_and], hE0_0⟩
  · have hg1_14P := hg1_14
    try simp only [decide_eq_true_eq, decide_eq_false_iff_not, Bool.and_eq_true, Bool.or_eq_true, Bool.and_eq_false_iff, Bool.or_eq_false_iff, Bool.not_eq_true', Bool.not_eq_false', beq_iff_eq, bne_iff_ne] at hg1_14P
    refine LW.skip rfl (fun _ e => by cases e; decide) rfl hg1_14 ?_
    refine LW.skip rfl (fun _ e => by cases e; decide) rfl hg1_14 ?_
    refine LW.skip rfl (fun _ e => by cases e; decide) rfl hg1_14 ?_
    refine r_pickF rfl rfl hg1_14 ?_
    refine r_assign rfl ?_
    refine LW.nil ?_
    refine thenE_norm (h2 _ _ ?_); clear h2; try clear K2
    refine CW.ret (ret1 Try.results46 (by simp only [upd_get, ev, Nat.reduceEqDiff, ↓reduceIte]; rfl) ?_)
    first
      | exact ⟨by rw [mayReqM]; rw [highM, ← Bool.and_assoc] at hg1_14; rw [hg1_14, Bool.true_and], hE0_0.trans hE1⟩
      | exact ⟨by rw [mayReqM]; rw [highM, ← Bool.and_assoc] at hg1_14; rw [hg1_14, Bool.false_and], hE0_0⟩

end Go.Proofs.Ytgcmafgcigipdaa
