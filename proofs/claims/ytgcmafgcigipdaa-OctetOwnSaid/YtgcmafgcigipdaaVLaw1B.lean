/-
  The walks of layer 1's laws, the second part: OctetOrder, OctetEdges, OctetBack.
-/
import Derived.Test.YtgcmafgcigipdaaVLaw1A
import Derived.Test.YtgcmafgcigipdaaVMLaw1
namespace Go.Proofs.Ytgcmafgcigipdaa
set_option linter.unusedSimpArgs false
set_option linter.unusedVariables false
open Go.V Go.RowKit

theorem OctetOrder_c (v x : Int) (w : World) :
    Calls Try.prog 3 #[.int .i64 v, .int .i64 x] w fun e w' => e = .returned (.bool true) ∧ Ext0 w w' := by
  refine calls_of_CW Try.func3 rfl Try.ntmps3 (Nat.le_of_ble_eq_true rfl) ?_
  simp only [argE, argFrom, Nat.reduceAdd]
  refine CW.seq (fun K1 h1 => ?_)
  refine CW.region ?_
  refine r_assign rfl ?_
  refine LW.nil ?_
  refine thenE_norm (h1 _ _ ?_); clear h1; try clear K1
  refine CW.seq (fun K2 h2 => ?_)
  refine CW.seq (fun K3 h3 => ?_)
  refine CW.region ?_
  refine r_move rfl ?_
  refine r_lss rfl rfl rfl ?_
  refine r_move rfl ?_
  refine' LW.grpOr (n := 3) (ts := [0, 1, 15, 19]) (d := 14) (tj := 11) rfl (fun hg1_3 => ?_) (fun hg1_3 => ?_) (fun σ => ?_)
  rotate_left
  · simp only [List.take_succ_cons, List.take_zero]
    have hg1_3P := hg1_3
    try simp only [decide_eq_true_eq, decide_eq_false_iff_not, Bool.and_eq_true, Bool.or_eq_true, Bool.and_eq_false_iff, Bool.or_eq_false_iff, Bool.not_eq_true', Bool.not_eq_false', beq_iff_eq, bne_iff_ne] at hg1_3P
    refine LW.want rfl rfl hg1_3 ?_
    refine r_move rfl ?_
    refine LW.want rfl rfl hg1_3 ?_
    refine r_geq rfl rfl rfl ?_
    refine r_pickF rfl rfl hg1_3 ?_
    refine LW.nil (thenE_norm ⟨rfl, rfl, rfl⟩)
  · simp only [List.take_succ_cons, List.take_zero]
    refine LW.skip rfl (fun _ e => by cases e; decide) rfl hg1_3 ?_
    refine LW.skip rfl (fun _ e => by cases e; decide) rfl hg1_3 ?_
    refine r_pickT rfl rfl hg1_3 ?_
    refine LW.nil (thenE_norm ⟨rfl, rfl, rfl⟩)
  simp only [setL, keepE, upd_get, ev, Nat.reduceEqDiff, ↓reduceIte]; simp only [List.drop_succ_cons, List.drop_zero]
  refine r_move rfl ?_
  refine' LW.grpOr (n := 3) (ts := [0, 1, 19]) (d := 18) (tj := 15) rfl (fun hg1_7 => ?_) (fun hg1_7 => ?_) (fun σ => ?_)
  rotate_left
  · simp only [List.take_succ_cons, List.take_zero]
    have hg1_7P := hg1_7
    try simp only [decide_eq_true_eq, decide_eq_false_iff_not, Bool.and_eq_true, Bool.or_eq_true, Bool.and_eq_false_iff, Bool.or_eq_false_iff, Bool.not_eq_true', Bool.not_eq_false', beq_iff_eq, bne_iff_ne] at hg1_7P
    refine LW.want rfl rfl hg1_7 ?_
    refine r_move rfl ?_
    refine LW.want rfl rfl hg1_7 ?_
    refine r_lss rfl rfl rfl ?_
    refine r_pickF rfl rfl hg1_7 ?_
    refine LW.nil (thenE_norm ⟨rfl, rfl, rfl⟩)
  · simp only [List.take_succ_cons, List.take_zero]
    refine LW.skip rfl (fun _ e => by cases e; decide) rfl hg1_7 ?_
    refine LW.skip rfl (fun _ e => by cases e; decide) rfl hg1_7 ?_
    refine r_pickT rfl rfl hg1_7 ?_
    refine LW.nil (thenE_norm ⟨rfl, rfl, rfl⟩)
  simp only [setL, keepE, upd_get, ev, Nat.reduceEqDiff, ↓reduceIte]; simp only [List.drop_succ_cons, List.drop_zero]
  refine r_move rfl ?_
  refine' LW.grpOr (n := 3) (ts := [0, 1]) (d := 22) (tj := 19) rfl (fun hg1_11 => ?_) (fun hg1_11 => ?_) (fun σ => ?_)
  rotate_left
  · simp only [List.take_succ_cons, List.take_zero]
    have hg1_11P := hg1_11
    try simp only [decide_eq_true_eq, decide_eq_false_iff_not, Bool.and_eq_true, Bool.or_eq_true, Bool.and_eq_false_iff, Bool.or_eq_false_iff, Bool.not_eq_true', Bool.not_eq_false', beq_iff_eq, bne_iff_ne] at hg1_11P
    refine LW.want rfl rfl hg1_11 ?_
    refine r_move rfl ?_
    refine LW.want rfl rfl hg1_11 ?_
    refine r_geq rfl rfl rfl ?_
    refine r_pickF rfl rfl hg1_11 ?_
    refine LW.nil (thenE_norm ⟨rfl, rfl, rfl⟩)
  · simp only [List.take_succ_cons, List.take_zero]
    refine LW.skip rfl (fun _ e => by cases e; decide) rfl hg1_11 ?_
    refine LW.skip rfl (fun _ e => by cases e; decide) rfl hg1_11 ?_
    refine r_pickT rfl rfl hg1_11 ?_
    refine LW.nil (thenE_norm ⟨rfl, rfl, rfl⟩)
  simp only [setL, keepE, upd_get, ev, Nat.reduceEqDiff, ↓reduceIte]; simp only [List.drop_succ_cons, List.drop_zero]
  refine LW.nil ?_
  refine thenE_norm (h3 _ _ ?_); clear h3; try clear K3
  refine CW.cond rfl (fun hc1 => ?_) (fun hc1 => ?_)
  · try simp only [decide_eq_true_eq, decide_eq_false_iff_not, Bool.and_eq_true, Bool.or_eq_true, Bool.and_eq_false_iff, Bool.or_eq_false_iff, Bool.not_eq_true', Bool.not_eq_false', beq_iff_eq, bne_iff_ne] at hc1
    refine CW.seq (fun K4 h4 => ?_)
    refine CW.region ?_
    refine r_call rfl Try.call15 rfl (awake_c _) ?_
    rintro _ wa ⟨rfl, hEa⟩
    refine ⟨_, rfl, ?_⟩
    refine r_assign rfl ?_
    refine LW.nil ?_
    refine thenE_norm (h4 _ _ ?_); clear h4; try clear K4
    refine CW.ret (thenE_ret (ret1 Try.results3 (by simp only [upd_get, ev, Nat.reduceEqDiff, ↓reduceIte]; rfl) ?_))
    exact ⟨rfl, hEa⟩
  · try simp only [decide_eq_true_eq, decide_eq_false_iff_not, Bool.and_eq_true, Bool.or_eq_true, Bool.and_eq_false_iff, Bool.or_eq_false_iff, Bool.not_eq_true', Bool.not_eq_false', beq_iff_eq, bne_iff_ne] at hc1
    refine CW.skip ?_
    refine thenE_norm (h2 _ _ ?_); clear h2; try clear K2
    refine CW.seq (fun K5 h5 => ?_)
    refine CW.region ?_
    refine r_move rfl ?_
    refine r_call rfl Try.call16 rfl (PutNum_ok v _ (by omega) (by omega)) ?_
    rintro _ w1 ⟨v1, rfl, hv1, hE1⟩
    refine ⟨_, rfl, ?_⟩
    refine r_move rfl ?_
    refine r_extract rfl rfl rfl ?_
    refine r_extract rfl rfl rfl ?_
    refine r_assign rfl ?_
    refine r_assign rfl ?_
    refine LW.nil ?_
    refine thenE_norm (h5 _ _ ?_); clear h5; try clear K5
    refine CW.seq (fun K6 h6 => ?_)
    refine CW.region ?_
    refine r_move rfl ?_
    refine r_call rfl Try.call16 rfl (PutNum_ok x _ (by omega) (by omega)) ?_
    rintro _ w2 ⟨v2, rfl, hv2, hE2⟩
    refine ⟨_, rfl, ?_⟩
    have e2 := hE1.trans hE2
    have hv12 := hv1.up0 hE2
    have hx := less_eight v x (by omega) (by omega) (by omega) (by omega)
    have hy := eight_inj v x (by omega) (by omega) (by omega) (by omega)
    have hq1 := hv12
    have hq2 := hv2
    obtain ⟨ao1, cap1, rfl, -, -, -⟩ := hv12.cell
    obtain ⟨ao2, cap2, rfl, -, -, -⟩ := hv2.cell
    refine r_move rfl ?_
    refine r_extract rfl rfl rfl ?_
    refine r_extract rfl rfl rfl ?_
    refine r_assign rfl ?_
    refine r_assign rfl ?_
    refine LW.nil ?_
    refine thenE_norm ?_
    refine cut (K := K6) [0, 1, 5, 6, 7, 8] (fun σ => ?_)
    simp only [setL, keepE, upd_get, ev, Nat.reduceEqDiff, ↓reduceIte]
    refine h6 _ _ ?_; clear h6; try clear K6
    refine CW.seq (fun K7 h7 => ?_)
    refine CW.region ?_
    refine r_move rfl ?_
    refine r_eql rfl rfl rfl ?_
    refine r_move rfl ?_
    refine LW.known (t := 36) (c := true) rfl rfl (fun hg5_3 => ?_)
    refine LW.want rfl rfl hg5_3 ?_
    refine r_move rfl ?_
    refine LW.want rfl rfl hg5_3 ?_
    refine r_eql rfl rfl rfl ?_
    refine r_pickT rfl rfl hg5_3 ?_
    refine r_move rfl ?_
    refine LW.known (t := 40) (c := true) rfl rfl (fun hg5_7 => ?_)
    refine LW.want rfl rfl hg5_7 ?_
    refine r_move rfl ?_
    refine LW.want rfl rfl hg5_7 ?_
    refine r_len rfl Try.underlying23 rfl ?_
    refine LW.want rfl rfl hg5_7 ?_
    refine r_eql rfl rfl rfl ?_
    refine r_pickT rfl rfl hg5_7 ?_
    refine r_move rfl ?_
    refine LW.known (t := 45) (c := true) rfl rfl (fun hg5_12 => ?_)
    refine LW.want rfl rfl hg5_12 ?_
    refine r_move rfl ?_
    refine LW.want rfl rfl hg5_12 ?_
    refine r_len rfl Try.underlying23 rfl ?_
    refine LW.want rfl rfl hg5_12 ?_
    refine r_eql rfl rfl rfl ?_
    refine r_pickT rfl rfl hg5_12 ?_
    refine r_move rfl ?_
    refine LW.known (t := 50) (c := true) rfl rfl (fun hg5_17 => ?_)
    refine LW.want rfl rfl hg5_17 ?_
    refine r_move rfl ?_
    refine LW.want rfl rfl hg5_17 ?_
    refine r_b2s rfl Try.underlying23 Try.underlying5 Try.underlying9 rfl hq1 rfl ?_
    skip
    refine LW.want rfl rfl hg5_17 ?_
    refine r_move rfl ?_
    refine LW.want rfl rfl hg5_17 ?_
    refine r_b2s rfl Try.underlying23 Try.underlying5 Try.underlying9 rfl hq2 rfl ?_
    skip
    refine LW.want rfl rfl hg5_17 ?_
    refine r_lssS rfl rfl rfl ?_
    refine LW.want rfl rfl hg5_17 ?_
    refine r_move rfl ?_
    refine LW.want rfl rfl hg5_17 ?_
    refine r_move rfl ?_
    refine LW.want rfl rfl hg5_17 ?_
    refine r_lss rfl rfl rfl ?_
    refine LW.want rfl rfl hg5_17 ?_
    refine r_eqlB rfl Try.underlying4 rfl rfl ?_
    refine r_pickT rfl rfl hg5_17 ?_
    refine r_move rfl ?_
    refine LW.known (t := 61) (c := true) rfl (by rw [hx]; simp) (fun hg5_28 => ?_)
    refine LW.want rfl rfl hg5_28 ?_
    refine r_move rfl ?_
    refine LW.want rfl rfl hg5_28 ?_
    refine r_move rfl ?_
    refine LW.want rfl rfl hg5_28 ?_
    refine r_call rfl Try.call17 rfl (Same_c _ hq1 hq2) ?_
    rintro _ w3 ⟨rfl, rfl⟩
    refine ⟨_, rfl, ?_⟩
    refine LW.want rfl rfl hg5_28 ?_
    refine r_move rfl ?_
    refine LW.want rfl rfl hg5_28 ?_
    refine r_move rfl ?_
    refine LW.want rfl rfl hg5_28 ?_
    refine r_eql rfl rfl rfl ?_
    refine LW.want rfl rfl hg5_28 ?_
    refine r_eqlB rfl Try.underlying4 rfl rfl ?_
    refine r_pickT rfl rfl hg5_28 ?_
    refine r_move rfl ?_
    refine LW.known (t := 70) (c := true) rfl (by rw [hy]; simp) (fun hg5_37 => ?_)
    refine LW.want rfl rfl hg5_37 ?_
    refine r_call rfl Try.call15 rfl (awake_c _) ?_
    rintro _ wa ⟨rfl, hEa⟩
    refine ⟨_, rfl, ?_⟩
    refine r_pickT rfl rfl hg5_37 ?_
    refine r_assign rfl ?_
    refine LW.nil ?_
    refine thenE_norm ?_
    refine cut (K := K7) [4] (fun σ => ?_)
    simp only [setL, keepE, upd_get, ev, Nat.reduceEqDiff, ↓reduceIte]
    refine h7 _ _ ?_; clear h7; try clear K7
    refine CW.ret (ret1 Try.results3 (by simp only [upd_get, ev, Nat.reduceEqDiff, ↓reduceIte]; rfl) ?_)
    exact ⟨rfl, e2.trans hEa⟩

theorem OctetBack_c {F G : Nat → Prop} {a b : Value} {xs ys : List UInt8} (v : Int) (s : ByteArray) (ct : Int) (w : World) (ha : Bs F w a xs) (hb : Bs G w b ys) (hc0 : 0 ≤ ct) (hc1 : ct < 65536) :
    Calls Try.prog 5 #[.int .i64 v, .string s, a, b, .int .u16 ct] w fun e w' => e = .returned (.bool true) ∧ Ext0 w w' := by
  have ha' := ha
  have hb' := hb
  obtain ⟨aoa, capa, rfl, -, -, -⟩ := ha.cell
  obtain ⟨aob, capb, rfl, -, -, -⟩ := hb.cell
  have hsz : s.data.toList.length = s.size := by simp
  refine calls_of_CW Try.func5 rfl Try.ntmps5 (Nat.le_of_ble_eq_true rfl) ?_
  simp only [argE, argFrom, Nat.reduceAdd]
  refine CW.seq (fun K1 h1 => ?_)
  refine CW.region ?_
  refine r_assign rfl ?_
  refine LW.nil ?_
  refine thenE_norm (h1 _ _ ?_); clear h1; try clear K1
  refine CW.seq (fun K2 h2 => ?_)
  refine CW.seq (fun K3 h3 => ?_)
  refine CW.region ?_
  refine r_move rfl ?_
  refine r_lenS rfl Try.underlying9 rfl ?_
  refine r_gtr rfl rfl rfl ?_
  refine r_move rfl ?_
  refine' LW.grpOr (n := 4) (ts := [0, 1, 2, 3, 4, 38, 43, 47]) (d := 37) (tj := 33) rfl (fun hg1_4 => ?_) (fun hg1_4 => ?_) (fun σ => ?_)
  rotate_left
  · simp only [List.take_succ_cons, List.take_zero]
    have hg1_4P := hg1_4
    try simp only [decide_eq_true_eq, decide_eq_false_iff_not, Bool.and_eq_true, Bool.or_eq_true, Bool.and_eq_false_iff, Bool.or_eq_false_iff, Bool.not_eq_true', Bool.not_eq_false', beq_iff_eq, bne_iff_ne] at hg1_4P
    refine LW.want rfl rfl hg1_4 ?_
    refine r_move rfl ?_
    refine LW.want rfl rfl hg1_4 ?_
    refine r_len rfl Try.underlying23 rfl ?_
    refine LW.want rfl rfl hg1_4 ?_
    refine r_gtr rfl rfl rfl ?_
    refine r_pickF rfl rfl hg1_4 ?_
    refine LW.nil (thenE_norm ⟨rfl, rfl, rfl⟩)
  · simp only [List.take_succ_cons, List.take_zero]
    refine LW.skip rfl (fun _ e => by cases e; decide) rfl hg1_4 ?_
    refine LW.skip rfl (fun _ e => by cases e; decide) rfl hg1_4 ?_
    refine LW.skip rfl (fun _ e => by cases e; decide) rfl hg1_4 ?_
    refine r_pickT rfl rfl hg1_4 ?_
    refine LW.nil (thenE_norm ⟨rfl, rfl, rfl⟩)
  simp only [setL, keepE, upd_get, ev, Nat.reduceEqDiff, ↓reduceIte]; simp only [List.drop_succ_cons, List.drop_zero]
  refine r_move rfl ?_
  refine' LW.grpOr (n := 4) (ts := [0, 1, 2, 3, 4, 43, 47]) (d := 42) (tj := 38) rfl (fun hg1_9 => ?_) (fun hg1_9 => ?_) (fun σ => ?_)
  rotate_left
  · simp only [List.take_succ_cons, List.take_zero]
    have hg1_9P := hg1_9
    try simp only [decide_eq_true_eq, decide_eq_false_iff_not, Bool.and_eq_true, Bool.or_eq_true, Bool.and_eq_false_iff, Bool.or_eq_false_iff, Bool.not_eq_true', Bool.not_eq_false', beq_iff_eq, bne_iff_ne] at hg1_9P
    refine LW.want rfl rfl hg1_9 ?_
    refine r_move rfl ?_
    refine LW.want rfl rfl hg1_9 ?_
    refine r_len rfl Try.underlying23 rfl ?_
    refine LW.want rfl rfl hg1_9 ?_
    refine r_gtr rfl rfl rfl ?_
    refine r_pickF rfl rfl hg1_9 ?_
    refine LW.nil (thenE_norm ⟨rfl, rfl, rfl⟩)
  · simp only [List.take_succ_cons, List.take_zero]
    refine LW.skip rfl (fun _ e => by cases e; decide) rfl hg1_9 ?_
    refine LW.skip rfl (fun _ e => by cases e; decide) rfl hg1_9 ?_
    refine LW.skip rfl (fun _ e => by cases e; decide) rfl hg1_9 ?_
    refine r_pickT rfl rfl hg1_9 ?_
    refine LW.nil (thenE_norm ⟨rfl, rfl, rfl⟩)
  simp only [setL, keepE, upd_get, ev, Nat.reduceEqDiff, ↓reduceIte]; simp only [List.drop_succ_cons, List.drop_zero]
  refine r_move rfl ?_
  refine' LW.grpOr (n := 3) (ts := [0, 1, 2, 3, 4, 47]) (d := 46) (tj := 43) rfl (fun hg1_14 => ?_) (fun hg1_14 => ?_) (fun σ => ?_)
  rotate_left
  · simp only [List.take_succ_cons, List.take_zero]
    have hg1_14P := hg1_14
    try simp only [decide_eq_true_eq, decide_eq_false_iff_not, Bool.and_eq_true, Bool.or_eq_true, Bool.and_eq_false_iff, Bool.or_eq_false_iff, Bool.not_eq_true', Bool.not_eq_false', beq_iff_eq, bne_iff_ne] at hg1_14P
    refine LW.want rfl rfl hg1_14 ?_
    refine r_move rfl ?_
    refine LW.want rfl rfl hg1_14 ?_
    refine r_lss rfl rfl rfl ?_
    refine r_pickF rfl rfl hg1_14 ?_
    refine LW.nil (thenE_norm ⟨rfl, rfl, rfl⟩)
  · simp only [List.take_succ_cons, List.take_zero]
    refine LW.skip rfl (fun _ e => by cases e; decide) rfl hg1_14 ?_
    refine LW.skip rfl (fun _ e => by cases e; decide) rfl hg1_14 ?_
    refine r_pickT rfl rfl hg1_14 ?_
    refine LW.nil (thenE_norm ⟨rfl, rfl, rfl⟩)
  simp only [setL, keepE, upd_get, ev, Nat.reduceEqDiff, ↓reduceIte]; simp only [List.drop_succ_cons, List.drop_zero]
  refine r_move rfl ?_
  refine' LW.grpOr (n := 3) (ts := [0, 1, 2, 3, 4]) (d := 50) (tj := 47) rfl (fun hg1_18 => ?_) (fun hg1_18 => ?_) (fun σ => ?_)
  rotate_left
  · simp only [List.take_succ_cons, List.take_zero]
    have hg1_18P := hg1_18
    try simp only [decide_eq_true_eq, decide_eq_false_iff_not, Bool.and_eq_true, Bool.or_eq_true, Bool.and_eq_false_iff, Bool.or_eq_false_iff, Bool.not_eq_true', Bool.not_eq_false', beq_iff_eq, bne_iff_ne] at hg1_18P
    refine LW.want rfl rfl hg1_18 ?_
    refine r_move rfl ?_
    refine LW.want rfl rfl hg1_18 ?_
    refine r_geq rfl rfl rfl ?_
    refine r_pickF rfl rfl hg1_18 ?_
    refine LW.nil (thenE_norm ⟨rfl, rfl, rfl⟩)
  · simp only [List.take_succ_cons, List.take_zero]
    refine LW.skip rfl (fun _ e => by cases e; decide) rfl hg1_18 ?_
    refine LW.skip rfl (fun _ e => by cases e; decide) rfl hg1_18 ?_
    refine r_pickT rfl rfl hg1_18 ?_
    refine LW.nil (thenE_norm ⟨rfl, rfl, rfl⟩)
  simp only [setL, keepE, upd_get, ev, Nat.reduceEqDiff, ↓reduceIte]; simp only [List.drop_succ_cons, List.drop_zero]
  refine LW.nil ?_
  refine thenE_norm (h3 _ _ ?_); clear h3; try clear K3
  refine CW.cond rfl (fun hc1 => ?_) (fun hc1 => ?_)
  · try simp only [decide_eq_true_eq, decide_eq_false_iff_not, Bool.and_eq_true, Bool.or_eq_true, Bool.and_eq_false_iff, Bool.or_eq_false_iff, Bool.not_eq_true', Bool.not_eq_false', beq_iff_eq, bne_iff_ne] at hc1
    refine CW.seq (fun K4 h4 => ?_)
    refine CW.region ?_
    refine r_call rfl Try.call15 rfl (awake_c _) ?_
    rintro _ wa ⟨rfl, hEa⟩
    refine ⟨_, rfl, ?_⟩
    refine r_assign rfl ?_
    refine LW.nil ?_
    refine thenE_norm (h4 _ _ ?_); clear h4; try clear K4
    refine CW.ret (thenE_ret (ret1 Try.results5 (by simp only [upd_get, ev, Nat.reduceEqDiff, ↓reduceIte]; rfl) ?_))
    exact ⟨rfl, hEa⟩
  · try simp only [decide_eq_true_eq, decide_eq_false_iff_not, Bool.and_eq_true, Bool.or_eq_true, Bool.and_eq_false_iff, Bool.or_eq_false_iff, Bool.not_eq_true', Bool.not_eq_false', beq_iff_eq, bne_iff_ne] at hc1
    refine CW.skip ?_
    refine thenE_norm (h2 _ _ ?_); clear h2; try clear K2
    refine CW.seq (fun K5 h5 => ?_)
    refine CW.region ?_
    refine r_move rfl ?_
    refine r_call rfl Try.call16 rfl (PutNum_ok v _ (by omega) (by omega)) ?_
    rintro _ w1 ⟨v1, rfl, hv1, hE1⟩
    refine ⟨_, rfl, ?_⟩
    refine r_move rfl ?_
    refine r_extract rfl rfl rfl ?_
    refine r_extract rfl rfl rfl ?_
    refine r_assign rfl ?_
    refine r_assign rfl ?_
    refine LW.nil ?_
    refine thenE_norm (h5 _ _ ?_); clear h5; try clear K5
    refine CW.seq (fun K6 h6 => ?_)
    refine CW.region ?_
    refine r_move rfl ?_
    refine r_call rfl Try.call18 rfl (PutText_c s _) ?_
    rintro _ w2 ⟨v2, rfl, hv2, hE2⟩
    refine ⟨_, rfl, ?_⟩
    have e2 := hE1.trans hE2
    have hpt : putTextM s.data.toList = (UInt8.ofNat s.data.toList.length :: s.data.toList, 0) := by rw [putTextM, if_pos (by omega)]
    rw [hpt] at hv2 ⊢
    have hq1 := hv1.up0 hE2
    have hq2 := hv2
    have hl1 : (eight v.toNat).length = 8 := eight_len _
    have hl2 : (UInt8.ofNat s.data.toList.length :: s.data.toList).length = s.size + 1 := by simp
    obtain ⟨ao1, cap1, rfl, -, -, -⟩ := hq1.cell
    obtain ⟨ao2, cap2, rfl, -, -, -⟩ := hq2.cell
    have k1 : Bs (fun b => b < w2.heap.size) w2 _ (eight v.toNat) := Sl.mono hq1 (fun b hb _ => hb)
    have k2 : Bs (fun b => b < w2.heap.size) w2 _ (UInt8.ofNat s.data.toList.length :: s.data.toList) := Sl.mono hq2 (fun b hb _ => hb)
    have ka : Bs (fun b => b < w2.heap.size) w2 _ xs := Sl.mono (ha'.up0 e2) (fun b hb _ => hb)
    have kb : Bs (fun b => b < w2.heap.size) w2 _ ys := Sl.mono (hb'.up0 e2) (fun b hb _ => hb)
    refine r_move rfl ?_
    refine r_extract rfl rfl rfl ?_
    refine r_extract rfl rfl rfl ?_
    refine r_assign rfl ?_
    refine r_assign rfl ?_
    refine LW.nil ?_
    refine thenE_norm ?_
    refine cut (K := K6) [0, 1, 2, 3, 4, 11, 12, 13, 14] (fun σ => ?_)
    simp only [setL, keepE, upd_get, ev, Nat.reduceEqDiff, ↓reduceIte]
    refine h6 _ _ ?_; clear h6; try clear K6
    refine CW.seq (fun K7 h7 => ?_)
    refine CW.seq (fun K8 h8 => ?_)
    refine CW.region ?_
    refine r_move rfl ?_
    refine r_neq rfl rfl rfl ?_
    refine r_move rfl ?_
    refine LW.known (t := 64) (c := false) rfl rfl (fun hg5_3 => ?_)
    refine LW.want rfl rfl hg5_3 ?_
    refine r_move rfl ?_
    refine LW.want rfl rfl hg5_3 ?_
    refine r_neq rfl rfl rfl ?_
    refine r_pickF rfl rfl hg5_3 ?_
    refine r_move rfl ?_
    refine LW.known (t := 68) (c := false) rfl rfl (fun hg5_7 => ?_)
    refine LW.want rfl rfl hg5_7 ?_
    refine r_move rfl ?_
    refine LW.want rfl rfl hg5_7 ?_
    refine r_len rfl Try.underlying23 rfl ?_
    refine LW.want rfl rfl hg5_7 ?_
    refine r_neq rfl rfl rfl ?_
    refine r_pickF rfl rfl hg5_7 ?_
    refine r_move rfl ?_
    refine LW.known (t := 73) (c := false) rfl (by rw [hl1]; rfl) (fun hg5_12 => ?_)
    refine LW.want rfl rfl hg5_12 ?_
    refine r_move rfl ?_
    refine LW.want rfl rfl hg5_12 ?_
    refine r_len rfl Try.underlying23 rfl ?_
    refine LW.want rfl rfl hg5_12 ?_
    refine r_move rfl ?_
    refine LW.want rfl rfl hg5_12 ?_
    refine r_lenS rfl Try.underlying9 rfl ?_
    refine LW.want rfl rfl hg5_12 ?_
    refine r_add rfl rfl rfl (wr_i64 (by omega) (by omega)) ?_
    refine LW.want rfl rfl hg5_12 ?_
    refine r_neq rfl rfl rfl ?_
    refine r_pickF rfl rfl hg5_12 ?_
    refine LW.nil ?_
    refine thenE_norm ?_
    refine cut (K := K8) [0, 1, 2, 3, 4, 11, 13, 80] (fun σ => ?_)
    simp only [setL, keepE, upd_get, ev, Nat.reduceEqDiff, ↓reduceIte]
    refine h8 _ _ ?_; clear h8; try clear K8
    refine CW.condF rfl (by simp; omega) ?_
    refine CW.skip ?_
    refine thenE_norm (h7 _ _ ?_); clear h7; try clear K7
    refine CW.seq (fun K9 h9 => ?_)
    refine CW.region ?_
    refine r_buildSlice rfl Try.underlying23 Try.sizeOf5 Try.zeroValue5 rfl rfl rfl rfl ?_
    intro b7_0 w7_0 hb7_0 hs7_0 hE7_0 hB7_0
    have g0 : ∀ b, some b7_0 = some b → w2.heap.size ≤ b := fun b h => by cases h; omega
    refine r_move rfl ?_
    refine r_append rfl Try.underlying23 (.inl ⟨_, Try.underlying23⟩) Try.type5 rfl rfl rfl rfl rfl rfl (Own.blk (n := 0) hB7_0 rfl (by decide) rfl) (Bs.src (ka.up0 hE7_0)) (by simp [maxLen]; omega) (by show (0 + xs.length) * 1 ≤ _; omega) ?_
    intro v7_2 w7_2 g7_2 hO7_2 hE7_2 hG7_2 hN7_2
    obtain ⟨f2, g2⟩ := appN hE7_0 hE7_2 g0 hG7_2
    refine r_move rfl ?_
    refine r_append rfl Try.underlying23 (.inl ⟨_, Try.underlying23⟩) Try.type5 rfl rfl rfl rfl rfl rfl hO7_2 (Bs.src (k1.up0 f2)) (by simp only [maxLen]; omega) (by show (0 + xs.length + (eight v.toNat).length) * 1 ≤ _; omega) ?_
    intro v7_4 w7_4 g7_4 hO7_4 hE7_4 hG7_4 hN7_4
    obtain ⟨f4, g4⟩ := appN f2 hE7_4 g2 hG7_4
    refine r_move rfl ?_
    refine r_append rfl Try.underlying23 (.inl ⟨_, Try.underlying23⟩) Try.type5 rfl rfl rfl rfl rfl rfl hO7_4 (Bs.src (k2.up0 f4)) (by simp only [maxLen]; omega) (by show (0 + xs.length + (eight v.toNat).length + (UInt8.ofNat s.data.toList.length :: s.data.toList).length) * 1 ≤ _; omega) ?_
    intro v7_6 w7_6 g7_6 hO7_6 hE7_6 hG7_6 hN7_6
    obtain ⟨f6, g6⟩ := appN f4 hE7_6 g4 hG7_6
    refine r_move rfl ?_
    refine r_append rfl Try.underlying23 (.inl ⟨_, Try.underlying23⟩) Try.type5 rfl rfl rfl rfl rfl rfl hO7_6 (Bs.src (kb.up0 f6)) (by simp only [maxLen]; omega) (by show (0 + xs.length + (eight v.toNat).length + (UInt8.ofNat s.data.toList.length :: s.data.toList).length + ys.length) * 1 ≤ _; omega) ?_
    intro v7_8 w7_8 g7_8 hO7_8 hE7_8 hG7_8 hN7_8
    obtain ⟨f8, g8⟩ := appN f6 hE7_8 g6 hG7_8
    refine r_assign rfl ?_
    refine LW.nil ?_
    refine thenE_norm ?_
    refine cut (K := K9) [0, 1, 2, 3, 4, 13, 15] (fun σ => ?_)
    simp only [setL, keepE, upd_get, ev, Nat.reduceEqDiff, ↓reduceIte]
    refine h9 _ _ ?_; clear h9; try clear K9
    refine CW.seq (fun K10 h10 => ?_)
    have e8 := e2.trans f8
    have hB : Bs (fun _ => True) w7_8 v7_8 (xs ++ (eight v.toNat ++ (UInt8.ofNat s.data.toList.length :: s.data.toList ++ ys))) := by
      unfold Bs
      rw [show (xs ++ (eight v.toNat ++ (UInt8.ofNat s.data.toList.length :: s.data.toList ++ ys))).length = 0 + xs.length + (eight v.toNat).length + (UInt8.ofNat s.data.toList.length :: s.data.toList).length + ys.length from by simp only [List.length_append]; omega,
        show (xs ++ (eight v.toNat ++ (UInt8.ofNat s.data.toList.length :: s.data.toList ++ ys))).map u8v = [] ++ xs.map u8v ++ (eight v.toNat).map u8v ++ (UInt8.ofNat s.data.toList.length :: s.data.toList).map u8v ++ ys.map u8v from by simp]
      exact hO7_8.sl.mono fun _ _ _ => trivial
    have hn := Num_c (xs.length : Int) w7_8 hB
    rw [numM_app xs _ v (by omega) (by omega)] at hn
    refine CW.region ?_
    refine r_move rfl ?_
    refine r_move rfl ?_
    refine r_len rfl Try.underlying23 rfl ?_
    refine r_call rfl Try.call24 rfl (hn) ?_
    rintro _ w9 ⟨rfl, hE9⟩
    refine ⟨_, rfl, ?_⟩
    have e9 := e8.trans hE9
    have hB9 := hB.up0 hE9
    have htm : textM (xs ++ (eight v.toNat ++ (UInt8.ofNat s.data.toList.length :: s.data.toList ++ ys))) ((xs.length : Int) + 8) 255 = (s.data.toList, (xs.length : Int) + 8 + 1 + s.data.toList.length, 0) := by
      have := textM_app (xs ++ eight v.toNat) ys s.data.toList 255 (by omega) (by omega)
      rw [List.append_assoc, show ((xs ++ eight v.toNat).length : Int) = (xs.length : Int) + 8 from by rw [List.length_append, hl1]; rfl] at this
      exact this
    have ht := Text_c ((xs.length : Int) + 8) 255 w9 hB9
    rw [htm] at ht
    have htc : (UInt8.ofNat s.data.toList.length :: s.data.toList).length = s.data.toList.length + 1 := by simp
    obtain ⟨ao9, cap9, hv9, -, -, -⟩ := hB9.cell
    have hL : (xs ++ (eight v.toNat ++ (UInt8.ofNat s.data.toList.length :: s.data.toList ++ ys))).length = xs.length + 8 + s.size + 1 + ys.length := by simp only [List.length_append]; omega
    rw [hL] at hv9
    subst hv9
    refine r_move rfl ?_
    refine r_extract rfl rfl rfl ?_
    refine r_extract rfl rfl rfl ?_
    refine r_extract rfl rfl rfl ?_
    refine r_assign rfl ?_
    refine r_assign rfl ?_
    refine r_assign rfl ?_
    refine LW.nil ?_
    refine thenE_norm ?_
    refine cut (K := K10) [0, 1, 2, 3, 4, 13, 15, 16, 17, 18] (fun σ => ?_)
    simp only [setL, keepE, upd_get, ev, Nat.reduceEqDiff, ↓reduceIte]
    refine h10 _ _ ?_; clear h10; try clear K10
    refine CW.seq (fun K11 h11 => ?_)
    refine CW.region ?_
    refine r_move rfl ?_
    refine r_move rfl ?_
    refine r_call rfl Try.call20 rfl (ht) ?_
    rintro _ w10 ⟨rfl, hE10⟩
    refine ⟨_, rfl, ?_⟩
    have e10 := e9.trans hE10
    have hB10 := hB9.up0 hE10
    refine r_move rfl ?_
    refine r_extract rfl rfl rfl ?_
    refine r_extract rfl rfl rfl ?_
    refine r_extract rfl rfl rfl ?_
    refine r_assign rfl ?_
    refine r_assign rfl ?_
    refine r_assign rfl ?_
    refine LW.nil ?_
    refine thenE_norm ?_
    refine cut (K := K11) [0, 1, 2, 3, 4, 13, 15, 16, 17, 18, 19, 20, 21] (fun σ => ?_)
    simp only [setL, keepE, upd_get, ev, Nat.reduceEqDiff, ↓reduceIte]
    refine h11 _ _ ?_; clear h11; try clear K11
    refine CW.seq (fun K12 h12 => ?_)
    refine CW.seq (fun K13 h13 => ?_)
    refine CW.region ?_
    refine r_move rfl ?_
    refine r_move rfl ?_
    refine r_neq rfl rfl rfl ?_
    refine r_move rfl ?_
    refine LW.known (t := 108) (c := false) rfl (by simp) (fun hg10_4 => ?_)
    refine LW.want rfl rfl hg10_4 ?_
    refine r_move rfl ?_
    refine LW.want rfl rfl hg10_4 ?_
    refine r_neq rfl rfl rfl ?_
    refine r_pickF rfl rfl hg10_4 ?_
    refine r_move rfl ?_
    refine LW.known (t := 112) (c := false) rfl (by simp) (fun hg10_8 => ?_)
    refine LW.want rfl rfl hg10_8 ?_
    refine r_move rfl ?_
    refine LW.want rfl rfl hg10_8 ?_
    refine r_move rfl ?_
    refine LW.want rfl rfl hg10_8 ?_
    refine r_neqS rfl rfl rfl ?_
    refine r_pickF rfl rfl hg10_8 ?_
    refine r_move rfl ?_
    refine LW.known (t := 117) (c := false) rfl (by simp) (fun hg10_13 => ?_)
    refine LW.want rfl rfl hg10_13 ?_
    refine r_move rfl ?_
    refine LW.want rfl rfl hg10_13 ?_
    refine r_neq rfl rfl rfl ?_
    refine r_pickF rfl rfl hg10_13 ?_
    refine r_move rfl ?_
    refine LW.known (t := 121) (c := false) rfl (by simp) (fun hg10_17 => ?_)
    refine LW.want rfl rfl hg10_17 ?_
    refine r_move rfl ?_
    refine LW.want rfl rfl hg10_17 ?_
    refine r_move rfl ?_
    refine LW.want rfl rfl hg10_17 ?_
    refine r_len rfl Try.underlying23 rfl ?_
    refine LW.want rfl rfl hg10_17 ?_
    refine r_add rfl rfl rfl (wr_i64 (by omega) (by omega)) ?_
    refine LW.want rfl rfl hg10_17 ?_
    refine r_neq rfl rfl rfl ?_
    refine r_pickF rfl rfl hg10_17 ?_
    refine r_move rfl ?_
    refine LW.known (t := 128) (c := false) rfl (by simp) (fun hg10_24 => ?_)
    refine LW.want rfl rfl hg10_24 ?_
    refine r_move rfl ?_
    refine LW.want rfl rfl hg10_24 ?_
    refine r_move rfl ?_
    refine LW.want rfl rfl hg10_24 ?_
    refine r_len rfl Try.underlying23 rfl ?_
    refine LW.want rfl rfl hg10_24 ?_
    refine r_move rfl ?_
    refine LW.want rfl rfl hg10_24 ?_
    refine r_len rfl Try.underlying23 rfl ?_
    refine LW.want rfl rfl hg10_24 ?_
    refine r_sub rfl rfl rfl (wr_i64 (by omega) (by omega)) ?_
    refine LW.want rfl rfl hg10_24 ?_
    refine r_neq rfl rfl rfl ?_
    refine r_pickF rfl rfl hg10_24 ?_
    refine LW.nil ?_
    refine thenE_norm ?_
    refine cut (K := K13) [2, 4, 13, 15, 17, 136] (fun σ => ?_)
    simp only [setL, keepE, upd_get, ev, Nat.reduceEqDiff, ↓reduceIte]
    refine h13 _ _ ?_; clear h13; try clear K13
    refine CW.condF rfl (by simp; omega) ?_
    refine CW.skip ?_
    refine thenE_norm (h12 _ _ ?_); clear h12; try clear K12
    refine CW.seq (fun K14 h14 => ?_)
    have hk0 := Int.emod_nonneg ct (show (8 : Int) + (UInt8.ofNat s.data.toList.length :: s.data.toList).length ≠ 0 from by omega)
    have hk1 := Int.emod_lt_of_pos ct (show 0 < (8 : Int) + (UInt8.ofNat s.data.toList.length :: s.data.toList).length from by omega)
    refine CW.region ?_
    refine r_move rfl ?_
    refine r_convI rfl Try.underlying34 Try.underlying3 rfl (wr_i64 (by omega) (by omega)) ?_
    refine r_move rfl ?_
    refine r_len rfl Try.underlying23 rfl ?_
    refine r_add rfl rfl rfl (wr_i64 (by omega) (by omega)) ?_
    refine r_rem rfl rfl rfl (by omega) (by omega) (wr_i64 (by omega) (by omega)) ?_
    refine r_assign rfl ?_
    refine LW.nil ?_
    refine thenE_norm (h14 _ _ ?_); clear h14; try clear K14
    refine CW.seq (fun K15 h15 => ?_)
    generalize hk : ct % ((8 : Int) + (UInt8.ofNat s.data.toList.length :: s.data.toList).length) = k at *
    refine CW.region ?_
    refine r_move rfl ?_
    refine r_move rfl ?_
    refine r_len rfl Try.underlying23 rfl ?_
    refine r_move rfl ?_
    refine r_add rfl rfl rfl (wr_i64 (by omega) (by omega)) ?_
    refine r_sliceH rfl Try.underlying23 Try.sizeOf5 rfl rfl hB10 (by simp) (by omega) (by rw [hL]; omega) ?_
    intro v13_5 hv13_5
    refine r_assign rfl ?_
    refine LW.nil ?_
    refine thenE_norm ?_
    refine cut (K := K15) [2, 17, 22, 23] (fun σ => ?_)
    simp only [setL, keepE, upd_get, ev, Nat.reduceEqDiff, ↓reduceIte]
    refine h15 _ _ ?_; clear h15; try clear K15
    refine CW.seq (fun K16 h16 => ?_)
    have hC : Bs (fun _ => True) w10 v13_5 ((xs ++ (eight v.toNat ++ (UInt8.ofNat s.data.toList.length :: s.data.toList ++ ys))).take ((xs.length : Int) + k).toNat) := by
      unfold Bs
      rw [List.length_take, hL, Nat.min_eq_left (by omega), List.map_take]
      simpa only [Nat.mul_one] using hv13_5
    have hCl : ((xs ++ (eight v.toNat ++ (UInt8.ofNat s.data.toList.length :: s.data.toList ++ ys))).take ((xs.length : Int) + k).toNat).length = ((xs.length : Int) + k).toNat := by rw [List.length_take, hL, Nat.min_eq_left (by omega)]
    refine CW.region ?_
    refine r_move rfl ?_
    refine r_move rfl ?_
    refine r_len rfl Try.underlying23 rfl ?_
    refine r_call rfl Try.call24 rfl (Num_c _ _ hC) ?_
    rintro _ w14 ⟨rfl, hE14⟩
    refine ⟨_, rfl, ?_⟩
    have e14 := e10.trans hE14
    have hC14 := hC.up0 hE14
    refine r_move rfl ?_
    refine r_extract rfl rfl rfl ?_
    refine r_extract rfl rfl rfl ?_
    refine r_extract rfl rfl rfl ?_
    refine r_assign rfl ?_
    refine r_assign rfl ?_
    refine r_assign rfl ?_
    refine LW.nil ?_
    refine thenE_norm ?_
    refine cut (K := K16) [17, 22, 23, 26] (fun σ => ?_)
    simp only [setL, keepE, upd_get, ev, Nat.reduceEqDiff, ↓reduceIte]
    refine h16 _ _ ?_; clear h16; try clear K16
    refine CW.seq (fun K17 h17 => ?_)
    refine CW.seq (fun K18 h18 => ?_)
    refine CW.region ?_
    refine r_move rfl ?_
    refine r_lss rfl rfl rfl ?_
    refine LW.nil ?_
    refine thenE_norm (h18 _ _ ?_); clear h18; try clear K18
    refine CW.cond rfl (fun hc4 => ?_) (fun hc4 => ?_)
    · try simp only [decide_eq_true_eq, decide_eq_false_iff_not, Bool.and_eq_true, Bool.or_eq_true, Bool.and_eq_false_iff, Bool.or_eq_false_iff, Bool.not_eq_true', Bool.not_eq_false', beq_iff_eq, bne_iff_ne] at hc4
      refine CW.seq (fun K19 h19 => ?_)
      refine CW.region ?_
      refine r_move rfl ?_
      refine r_eql rfl rfl rfl ?_
      refine r_move rfl ?_
      refine LW.known (t := 161) (c := true) rfl (by rw [numM_cut _ _ (by rw [hCl]; omega)]; rfl) (fun hg16_3 => ?_)
      refine LW.want rfl rfl hg16_3 ?_
      refine r_call rfl Try.call15 rfl (awake_c _) ?_
      rintro _ wa ⟨rfl, hEa⟩
      refine ⟨_, rfl, ?_⟩
      refine r_pickT rfl rfl hg16_3 ?_
      refine r_assign rfl ?_
      refine LW.nil ?_
      refine thenE_norm ?_
      refine cut (K := K19) [10] (fun σ => ?_)
      simp only [setL, keepE, upd_get, ev, Nat.reduceEqDiff, ↓reduceIte]
      refine h19 _ _ ?_; clear h19; try clear K19
      refine CW.ret (thenE_ret (ret1 Try.results5 (by simp only [upd_get, ev, Nat.reduceEqDiff, ↓reduceIte]; rfl) ?_))
      exact ⟨rfl, e14.trans hEa⟩
    · try simp only [decide_eq_true_eq, decide_eq_false_iff_not, Bool.and_eq_true, Bool.or_eq_true, Bool.and_eq_false_iff, Bool.or_eq_false_iff, Bool.not_eq_true', Bool.not_eq_false', beq_iff_eq, bne_iff_ne] at hc4
      have hcs : (xs ++ (eight v.toNat ++ (UInt8.ofNat s.data.toList.length :: s.data.toList ++ ys))).take ((xs.length : Int) + k).toNat = xs ++ (eight v.toNat ++ (UInt8.ofNat s.data.toList.length :: s.data.toList).take (k.toNat - 8)) := by
        rw [show ((xs.length : Int) + k).toNat = xs.length + (8 + (k.toNat - 8)) from by omega, List.take_length_add_append, show 8 + (k.toNat - 8) = (eight v.toNat).length + (k.toNat - 8) from by rw [hl1], List.take_length_add_append, List.take_append_of_le_length (by omega)]
      rw [hcs] at hC14 ⊢
      rw [numM_app xs _ v (by omega) (by omega)]
      have htx := textM_cut (xs ++ eight v.toNat) s.data.toList (k.toNat - 8) 255 (by omega) (by omega) (by omega)
      rw [List.append_assoc, show ((xs ++ eight v.toNat).length : Int) = (xs.length : Int) + 8 from by rw [List.length_append, hl1]; rfl] at htx
      refine CW.skip ?_
      refine thenE_norm (h17 _ _ ?_); clear h17; try clear K17
      refine CW.seq (fun K20 h20 => ?_)
      refine CW.region ?_
      refine r_move rfl ?_
      refine r_move rfl ?_
      refine r_call rfl Try.call20 rfl (Text_c _ _ _ hC14) ?_
      rintro _ w17 ⟨rfl, hE17⟩
      refine ⟨_, rfl, ?_⟩
      refine r_move rfl ?_
      refine r_extract rfl rfl rfl ?_
      refine r_extract rfl rfl rfl ?_
      refine r_extract rfl rfl rfl ?_
      refine r_assign rfl ?_
      refine r_assign rfl ?_
      refine r_assign rfl ?_
      refine LW.nil ?_
      refine thenE_norm ?_
      refine cut (K := K20) [26, 29] (fun σ => ?_)
      simp only [setL, keepE, upd_get, ev, Nat.reduceEqDiff, ↓reduceIte]
      refine h20 _ _ ?_; clear h20; try clear K20
      refine CW.seq (fun K21 h21 => ?_)
      refine CW.region ?_
      refine r_move rfl ?_
      refine r_eql rfl rfl rfl ?_
      refine r_move rfl ?_
      refine LW.known (t := 173) (c := true) rfl rfl (fun hg18_3 => ?_)
      refine LW.want rfl rfl hg18_3 ?_
      refine r_move rfl ?_
      refine LW.want rfl rfl hg18_3 ?_
      refine r_eql rfl rfl rfl ?_
      refine r_pickT rfl rfl hg18_3 ?_
      refine r_move rfl ?_
      refine LW.known (t := 177) (c := true) rfl (by rw [htx]; rfl) (fun hg18_7 => ?_)
      refine LW.want rfl rfl hg18_7 ?_
      refine r_call rfl Try.call15 rfl (awake_c _) ?_
      rintro _ wa ⟨rfl, hEa⟩
      refine ⟨_, rfl, ?_⟩
      refine r_pickT rfl rfl hg18_7 ?_
      refine r_assign rfl ?_
      refine LW.nil ?_
      refine thenE_norm ?_
      refine cut (K := K21) [10] (fun σ => ?_)
      simp only [setL, keepE, upd_get, ev, Nat.reduceEqDiff, ↓reduceIte]
      refine h21 _ _ ?_; clear h21; try clear K21
      refine CW.ret (ret1 Try.results5 (by simp only [upd_get, ev, Nat.reduceEqDiff, ↓reduceIte]; rfl) ?_)
      exact ⟨rfl, (e14.trans hE17).trans hEa⟩
end Go.Proofs.Ytgcmafgcigipdaa
