/-
  The walks of layer 1's laws, the third part: OctetEdges, OctetOwn.
-/
import Derived.Test.YtgcmafgcigipdaaVLaw1B
namespace Go.Proofs.Ytgcmafgcigipdaa
set_option linter.unusedSimpArgs false
set_option linter.unusedVariables false
open Go.V Go.RowKit

theorem OctetEdges_c (v n m : Int) (w : World) (hn0 : 0 ≤ n) (hn1 : n < 65536) (hm0 : 0 ≤ m) (hm1 : m < 256) :
    Calls Try.prog 8 #[.int .i64 v, .int .u16 n, .int .u8 m] w fun e w' => e = .returned (.bool true) ∧ Ext0 w w' := by
  have hwr : IntKind.u8.wrap n = ((UInt8.ofNat n.toNat).toNat : Int) := by rw [IntKind.wrap_u8, UInt8.toNat_ofNat']; omega
  have hclt := UInt8.toNat_lt (UInt8.ofNat n.toNat)
  refine calls_of_CW Try.func8 rfl Try.ntmps8 (Nat.le_of_ble_eq_true rfl) ?_
  simp only [argE, argFrom, Nat.reduceAdd]
  refine CW.seq (fun K1 h1 => ?_)
  refine CW.region ?_
  refine r_assign rfl ?_
  refine LW.nil ?_
  refine thenE_norm (h1 _ _ ?_); clear h1; try clear K1
  refine CW.seq (fun K2 h2 => ?_)
  refine CW.region ?_
  refine r_move rfl ?_
  refine r_call rfl Try.call16 rfl (PutNum_c v _) ?_
  rintro _ w1 ⟨v1, rfl, hv1, hE1⟩
  refine ⟨_, rfl, ?_⟩
  refine r_move rfl ?_
  refine r_extract rfl rfl rfl ?_
  refine r_extract rfl rfl rfl ?_
  refine r_assign rfl ?_
  refine r_assign rfl ?_
  refine LW.nil ?_
  refine thenE_norm ?_
  refine cut (K := K2) [0, 1, 2, 8] (fun σ => ?_)
  simp only [setL, keepE, upd_get, ev, Nat.reduceEqDiff, ↓reduceIte]
  refine h2 _ _ ?_; clear h2; try clear K2
  refine CW.seq (fun K3 h3 => ?_)
  refine CW.region ?_
  refine r_move rfl ?_
  refine r_call rfl Try.call27 rfl (PutByte_c v _) ?_
  rintro _ w2 ⟨v2, rfl, hv2, hE2⟩
  refine ⟨_, rfl, ?_⟩
  have e2 := hE1.trans hE2
  refine r_move rfl ?_
  refine r_extract rfl rfl rfl ?_
  refine r_extract rfl rfl rfl ?_
  refine r_assign rfl ?_
  refine r_assign rfl ?_
  refine LW.nil ?_
  refine thenE_norm (h3 _ _ ?_); clear h3; try clear K3
  refine CW.seq (fun K4 h4 => ?_)
  refine CW.region ?_
  refine r_move rfl ?_
  refine r_convI rfl Try.underlying34 Try.underlying3 rfl (wr_i64 (by omega) (by omega)) ?_
  refine r_rem rfl rfl rfl (by omega) (by omega) (wr_i64 (by omega) (by omega)) ?_
  refine r_make rfl Try.underlying23 Try.type5 rfl rfl rfl rfl rfl (by omega) (by omega) (by show (1 : Int) * _ ≤ _; omega) (by omega) ?_
  intro b3_3 w3_3 hb3_3 hs3_3 hE3_3 hB3_3
  have e3 := e2.trans hE3_3
  have hS : Bs (fun _ => True) w3_3 (.slice (some ⟨b3_3, 0, none⟩) (n % 600).toNat (n % 600).toNat) (List.replicate (n % 600).toNat 0) := Bs.ofBlk (by simpa [u8v] using hB3_3) trivial (by simp) (Nat.le_refl _) (by omega)
  refine r_b2s rfl Try.underlying23 Try.underlying5 Try.underlying9 rfl hS (by simp) ?_
  skip
  refine r_assign rfl ?_
  refine LW.nil ?_
  refine thenE_norm ?_
  refine cut (K := K4) [0, 1, 2, 8, 10, 11] (fun σ => ?_)
  simp only [setL, keepE, upd_get, ev, Nat.reduceEqDiff, ↓reduceIte]
  refine h4 _ _ ?_; clear h4; try clear K4
  refine CW.seq (fun K5 h5 => ?_)
  refine CW.region ?_
  refine r_move rfl ?_
  refine r_call rfl Try.call18 rfl (PutText_c _ _) ?_
  rintro _ w4 ⟨v4, rfl, hv4, hE4⟩
  refine ⟨_, rfl, ?_⟩
  have e4 := e3.trans hE4
  refine r_move rfl ?_
  refine r_extract rfl rfl rfl ?_
  refine r_extract rfl rfl rfl ?_
  refine r_assign rfl ?_
  refine r_assign rfl ?_
  refine LW.nil ?_
  refine thenE_norm (h5 _ _ ?_); clear h5; try clear K5
  refine CW.seq (fun K6 h6 => ?_)
  refine CW.region ?_
  refine r_move rfl ?_
  refine r_convIw rfl Try.underlying34 Try.underlying5 rfl ?_
  rw [hwr]
  refine r_buildSlice rfl Try.underlying23 Try.sizeOf5 Try.zeroValue5 rfl rfl rfl rfl ?_
  intro b5_2 w5_2 hb5_2 hs5_2 hE5_2 hB5_2
  have e5 := e4.trans hE5_2
  have hT : Bs (fun _ => True) w5_2 (.slice (some ⟨b5_2, 0, none⟩) 3 3) [UInt8.ofNat n.toNat, 1, 2] := Bs.ofBlk hB5_2 trivial rfl (by decide) (by decide)
  have htx := Text_c 0 m w5_2 hT
  refine r_assign rfl ?_
  refine LW.nil ?_
  refine thenE_norm ?_
  refine cut (K := K6) [0, 1, 2, 8, 10, 11, 13, 14] (fun σ => ?_)
  simp only [setL, keepE, upd_get, ev, Nat.reduceEqDiff, ↓reduceIte]
  refine h6 _ _ ?_; clear h6; try clear K6
  refine CW.seq (fun K7 h7 => ?_)
  refine CW.region ?_
  refine r_move rfl ?_
  refine r_move rfl ?_
  refine r_convI rfl Try.underlying5 Try.underlying3 rfl (wr_i64 (by omega) (by omega)) ?_
  refine r_call rfl Try.call20 rfl (htx) ?_
  rintro _ w6 ⟨rfl, hE6⟩
  refine ⟨_, rfl, ?_⟩
  rw [edge_read]
  have e6 := e5.trans hE6
  refine r_move rfl ?_
  refine r_extract rfl rfl rfl ?_
  refine r_extract rfl rfl rfl ?_
  refine r_extract rfl rfl rfl ?_
  refine r_assign rfl ?_
  refine r_assign rfl ?_
  refine r_assign rfl ?_
  refine LW.nil ?_
  refine thenE_norm ?_
  refine cut (K := K7) [0, 1, 2, 8, 10, 11, 13, 17] (fun σ => ?_)
  simp only [setL, keepE, upd_get, ev, Nat.reduceEqDiff, ↓reduceIte]
  refine h7 _ _ ?_; clear h7; try clear K7
  refine CW.seq (fun K8 h8 => ?_)
  refine CW.region ?_
  refine r_move rfl ?_
  refine r_convIw rfl Try.underlying34 Try.underlying5 rfl ?_
  rw [hwr]
  refine r_buildSlice rfl Try.underlying23 Try.sizeOf5 Try.zeroValue5 rfl rfl rfl rfl ?_
  intro b7_2 w7_2 hb7_2 hs7_2 hE7_2 hB7_2
  have e7 := e6.trans hE7_2
  have hU : Bs (fun _ => True) w7_2 (.slice (some ⟨b7_2, 0, none⟩) 8 8) [UInt8.ofNat n.toNat, 0, 0, 0, 0, 0, 0, 0] := Bs.ofBlk hB7_2 trivial rfl (by decide) (by decide)
  refine r_call rfl Try.call24 rfl (Num_c 0 w7_2 hU) ?_
  rintro _ w8 ⟨rfl, hE8⟩
  refine ⟨_, rfl, ?_⟩
  rw [edge_first]
  have e8 := e7.trans hE8
  refine r_move rfl ?_
  refine r_extract rfl rfl rfl ?_
  refine r_extract rfl rfl rfl ?_
  refine r_extract rfl rfl rfl ?_
  refine r_assign rfl ?_
  refine r_assign rfl ?_
  refine r_assign rfl ?_
  refine LW.nil ?_
  refine thenE_norm ?_
  refine cut (K := K8) [0, 1, 2, 8, 10, 11, 13, 17, 20] (fun σ => ?_)
  simp only [setL, keepE, upd_get, ev, Nat.reduceEqDiff, ↓reduceIte]
  refine h8 _ _ ?_; clear h8; try clear K8
  refine CW.seq (fun K9 h9 => ?_)
  refine CW.region ?_
  refine r_assign rfl ?_
  refine LW.nil ?_
  refine thenE_norm (h9 _ _ ?_); clear h9; try clear K9
  refine CW.seq (fun K10 h10 => ?_)
  refine CW.seq (fun K11 h11 => ?_)
  refine CW.region ?_
  refine r_move rfl ?_
  refine r_convIw rfl Try.underlying34 Try.underlying5 rfl ?_
  rw [hwr]
  refine r_move rfl ?_
  refine r_gtr rfl rfl rfl ?_
  refine LW.nil ?_
  refine thenE_norm (h11 _ _ ?_); clear h11; try clear K11
  refine CW.cond rfl (fun hc1 => ?_) (fun hc1 => ?_)
  · try simp only [decide_eq_true_eq, decide_eq_false_iff_not, Bool.and_eq_true, Bool.or_eq_true, Bool.and_eq_false_iff, Bool.or_eq_false_iff, Bool.not_eq_true', Bool.not_eq_false', beq_iff_eq, bne_iff_ne] at hc1
    refine CW.region ?_
    refine r_assign rfl ?_
    refine LW.nil ?_
    refine thenE_norm (h10 _ _ ?_); clear h10; try clear K10
    refine CW.seq (fun K12 h12 => ?_)
    refine CW.region ?_
    refine r_move rfl ?_
    refine r_eql rfl rfl rfl ?_
    refine r_move rfl ?_
    refine r_geq rfl rfl rfl ?_
    refine r_move rfl ?_
    refine' LW.grpAnd (n := 3) (ts := [0, 1, 10, 11, 13, 17, 20, 21, 69, 77, 82, 88, 96, 101, 109]) (d := 75) (tj := 72) rfl (fun hg13_5 => ?_) (fun hg13_5 => ?_) (fun σ => ?_)
    rotate_left
    · simp only [List.take_succ_cons, List.take_zero]
      have hg13_5P := hg13_5
      try simp only [decide_eq_true_eq, decide_eq_false_iff_not, Bool.and_eq_true, Bool.or_eq_true, Bool.and_eq_false_iff, Bool.or_eq_false_iff, Bool.not_eq_true', Bool.not_eq_false', beq_iff_eq, bne_iff_ne] at hg13_5P
      refine LW.want rfl rfl hg13_5 ?_
      refine r_move rfl ?_
      refine LW.want rfl rfl hg13_5 ?_
      refine r_lss rfl rfl rfl ?_
      refine r_pickT rfl rfl hg13_5 ?_
      refine LW.nil (thenE_norm ⟨rfl, rfl, rfl⟩)
    · simp only [List.take_succ_cons, List.take_zero]
      refine LW.skip rfl (fun _ e => by cases e; decide) rfl hg13_5 ?_
      refine LW.skip rfl (fun _ e => by cases e; decide) rfl hg13_5 ?_
      refine r_pickF rfl rfl hg13_5 ?_
      refine LW.nil (thenE_norm ⟨rfl, rfl, rfl⟩)
    simp only [setL, keepE, upd_get, ev, Nat.reduceEqDiff, ↓reduceIte]; simp only [List.drop_succ_cons, List.drop_zero]
    refine r_eqlB rfl Try.underlying4 rfl rfl ?_
    refine r_move rfl ?_
    refine LW.known (t := 77) (c := true) rfl (edge_num v) (fun hg13_10 => ?_)
    refine LW.want rfl rfl hg13_10 ?_
    refine r_move rfl ?_
    refine LW.want rfl rfl hg13_10 ?_
    refine r_eql rfl rfl rfl ?_
    refine LW.want rfl rfl hg13_10 ?_
    refine r_move rfl ?_
    refine LW.want rfl rfl hg13_10 ?_
    refine r_geq rfl rfl rfl ?_
    refine LW.want rfl rfl hg13_10 ?_
    refine r_move rfl ?_
    refine' LW.grpAnd (n := 3) (ts := [1, 11, 13, 17, 20, 21, 77, 79, 88, 96, 101, 109]) (d := 85) (tj := 82) rfl (fun hg13_15 => ?_) (fun hg13_15 => ?_) (fun σ => ?_)
    rotate_left
    · simp only [List.take_succ_cons, List.take_zero]
      have hg13_15P := hg13_15
      try simp only [decide_eq_true_eq, decide_eq_false_iff_not, Bool.and_eq_true, Bool.or_eq_true, Bool.and_eq_false_iff, Bool.or_eq_false_iff, Bool.not_eq_true', Bool.not_eq_false', beq_iff_eq, bne_iff_ne] at hg13_15P
      refine LW.want rfl rfl hg13_15 ?_
      refine r_move rfl ?_
      refine LW.want rfl rfl hg13_15 ?_
      refine r_lss rfl rfl rfl ?_
      refine LW.want rfl rfl hg13_10 ?_
      refine r_pickT rfl rfl hg13_15 ?_
      refine LW.nil (thenE_norm ⟨rfl, rfl, rfl⟩)
    · simp only [List.take_succ_cons, List.take_zero]
      refine LW.skip rfl (fun _ e => by cases e; decide) rfl hg13_15 ?_
      refine LW.skip rfl (fun _ e => by cases e; decide) rfl hg13_15 ?_
      refine LW.want rfl rfl hg13_10 ?_
      refine r_pickF rfl rfl hg13_15 ?_
      refine LW.nil (thenE_norm ⟨rfl, rfl, rfl⟩)
    simp only [setL, keepE, upd_get, ev, Nat.reduceEqDiff, ↓reduceIte]; simp only [List.drop_succ_cons, List.drop_zero]
    refine LW.want rfl rfl hg13_10 ?_
    refine r_eqlB rfl Try.underlying4 rfl rfl ?_
    refine r_pickT rfl rfl hg13_10 ?_
    refine r_move rfl ?_
    refine LW.known (t := 88) (c := true) rfl (edge_byte v) (fun hg13_21 => ?_)
    refine LW.want rfl rfl hg13_21 ?_
    refine r_move rfl ?_
    refine LW.want rfl rfl hg13_21 ?_
    refine r_eql rfl rfl rfl ?_
    refine LW.want rfl rfl hg13_21 ?_
    refine r_move rfl ?_
    refine LW.want rfl rfl hg13_21 ?_
    refine r_lenS rfl Try.underlying9 rfl ?_
    refine LW.want rfl rfl hg13_21 ?_
    refine r_lss rfl rfl rfl ?_
    refine LW.want rfl rfl hg13_21 ?_
    refine r_eqlB rfl Try.underlying4 rfl rfl ?_
    refine r_pickT rfl rfl hg13_21 ?_
    refine r_move rfl ?_
    refine LW.known (t := 96) (c := true) rfl (edge_text ⟨(List.replicate (n % 600).toNat 0).toArray⟩) (fun hg13_29 => ?_)
    refine LW.want rfl rfl hg13_29 ?_
    refine r_move rfl ?_
    refine LW.want rfl rfl hg13_29 ?_
    refine r_move rfl ?_
    refine LW.want rfl rfl hg13_29 ?_
    refine r_eql rfl rfl rfl ?_
    refine r_pickT rfl rfl hg13_29 ?_
    refine r_move rfl ?_
    refine LW.known (t := 101) (c := true) rfl (by simp only [decide_eq_true_eq]; repeat' split; all_goals first | rfl | omega) (fun hg13_34 => ?_)
    refine LW.want rfl rfl hg13_34 ?_
    refine r_move rfl ?_
    refine LW.want rfl rfl hg13_34 ?_
    refine r_eql rfl rfl rfl ?_
    refine LW.want rfl rfl hg13_34 ?_
    refine r_move rfl ?_
    refine LW.want rfl rfl hg13_34 ?_
    refine r_convIw rfl Try.underlying34 Try.underlying5 rfl ?_
    rw [hwr]
    refine LW.want rfl rfl hg13_34 ?_
    refine r_lss rfl rfl rfl ?_
    refine LW.want rfl rfl hg13_34 ?_
    refine r_eqlB rfl Try.underlying4 rfl rfl ?_
    refine r_pickT rfl rfl hg13_34 ?_
    refine r_move rfl ?_
    refine LW.known (t := 109) (c := true) rfl (by by_cases h : (UInt8.ofNat n.toNat).toNat < 64 <;> simp [h] <;> omega) (fun hg13_42 => ?_)
    refine LW.want rfl rfl hg13_42 ?_
    refine r_call rfl Try.call15 rfl (awake_c _) ?_
    rintro _ wa ⟨rfl, hEa⟩
    refine ⟨_, rfl, ?_⟩
    refine r_pickT rfl rfl hg13_42 ?_
    refine r_assign rfl ?_
    refine LW.nil ?_
    refine thenE_norm ?_
    refine cut (K := K12) [6] (fun σ => ?_)
    simp only [setL, keepE, upd_get, ev, Nat.reduceEqDiff, ↓reduceIte]
    refine h12 _ _ ?_; clear h12; try clear K12
    refine CW.ret (ret1 Try.results8 (by simp only [upd_get, ev, Nat.reduceEqDiff, ↓reduceIte]; rfl) ?_)
    exact ⟨rfl, e8.trans hEa⟩
  · try simp only [decide_eq_true_eq, decide_eq_false_iff_not, Bool.and_eq_true, Bool.or_eq_true, Bool.and_eq_false_iff, Bool.or_eq_false_iff, Bool.not_eq_true', Bool.not_eq_false', beq_iff_eq, bne_iff_ne] at hc1
    refine CW.seq (fun K13 h13 => ?_)
    refine CW.region ?_
    refine r_move rfl ?_
    refine r_convIw rfl Try.underlying34 Try.underlying5 rfl ?_
    rw [hwr]
    refine r_gtr rfl rfl rfl ?_
    refine LW.nil ?_
    refine thenE_norm ?_
    refine cut (K := K13) [0, 1, 8, 10, 11, 13, 17, 20, 21, 67] (fun σ => ?_)
    simp only [setL, keepE, upd_get, ev, Nat.reduceEqDiff, ↓reduceIte]
    refine h13 _ _ ?_; clear h13; try clear K13
    refine CW.cond rfl (fun hc2 => ?_) (fun hc2 => ?_)
    · try simp only [decide_eq_true_eq, decide_eq_false_iff_not, Bool.and_eq_true, Bool.or_eq_true, Bool.and_eq_false_iff, Bool.or_eq_false_iff, Bool.not_eq_true', Bool.not_eq_false', beq_iff_eq, bne_iff_ne] at hc2
      refine CW.region ?_
      refine r_assign rfl ?_
      refine LW.nil ?_
      refine thenE_norm (h10 _ _ ?_); clear h10; try clear K10
      refine CW.seq (fun K14 h14 => ?_)
      refine CW.region ?_
      refine r_move rfl ?_
      refine r_eql rfl rfl rfl ?_
      refine r_move rfl ?_
      refine r_geq rfl rfl rfl ?_
      refine r_move rfl ?_
      refine' LW.grpAnd (n := 3) (ts := [0, 1, 10, 11, 13, 17, 20, 21, 69, 77, 82, 88, 96, 101, 109]) (d := 75) (tj := 72) rfl (fun hg13_5 => ?_) (fun hg13_5 => ?_) (fun σ => ?_)
      rotate_left
      · simp only [List.take_succ_cons, List.take_zero]
        have hg13_5P := hg13_5
        try simp only [decide_eq_true_eq, decide_eq_false_iff_not, Bool.and_eq_true, Bool.or_eq_true, Bool.and_eq_false_iff, Bool.or_eq_false_iff, Bool.not_eq_true', Bool.not_eq_false', beq_iff_eq, bne_iff_ne] at hg13_5P
        refine LW.want rfl rfl hg13_5 ?_
        refine r_move rfl ?_
        refine LW.want rfl rfl hg13_5 ?_
        refine r_lss rfl rfl rfl ?_
        refine r_pickT rfl rfl hg13_5 ?_
        refine LW.nil (thenE_norm ⟨rfl, rfl, rfl⟩)
      · simp only [List.take_succ_cons, List.take_zero]
        refine LW.skip rfl (fun _ e => by cases e; decide) rfl hg13_5 ?_
        refine LW.skip rfl (fun _ e => by cases e; decide) rfl hg13_5 ?_
        refine r_pickF rfl rfl hg13_5 ?_
        refine LW.nil (thenE_norm ⟨rfl, rfl, rfl⟩)
      simp only [setL, keepE, upd_get, ev, Nat.reduceEqDiff, ↓reduceIte]; simp only [List.drop_succ_cons, List.drop_zero]
      refine r_eqlB rfl Try.underlying4 rfl rfl ?_
      refine r_move rfl ?_
      refine LW.known (t := 77) (c := true) rfl (edge_num v) (fun hg13_10 => ?_)
      refine LW.want rfl rfl hg13_10 ?_
      refine r_move rfl ?_
      refine LW.want rfl rfl hg13_10 ?_
      refine r_eql rfl rfl rfl ?_
      refine LW.want rfl rfl hg13_10 ?_
      refine r_move rfl ?_
      refine LW.want rfl rfl hg13_10 ?_
      refine r_geq rfl rfl rfl ?_
      refine LW.want rfl rfl hg13_10 ?_
      refine r_move rfl ?_
      refine' LW.grpAnd (n := 3) (ts := [1, 11, 13, 17, 20, 21, 77, 79, 88, 96, 101, 109]) (d := 85) (tj := 82) rfl (fun hg13_15 => ?_) (fun hg13_15 => ?_) (fun σ => ?_)
      rotate_left
      · simp only [List.take_succ_cons, List.take_zero]
        have hg13_15P := hg13_15
        try simp only [decide_eq_true_eq, decide_eq_false_iff_not, Bool.and_eq_true, Bool.or_eq_true, Bool.and_eq_false_iff, Bool.or_eq_false_iff, Bool.not_eq_true', Bool.not_eq_false', beq_iff_eq, bne_iff_ne] at hg13_15P
        refine LW.want rfl rfl hg13_15 ?_
        refine r_move rfl ?_
        refine LW.want rfl rfl hg13_15 ?_
        refine r_lss rfl rfl rfl ?_
        refine LW.want rfl rfl hg13_10 ?_
        refine r_pickT rfl rfl hg13_15 ?_
        refine LW.nil (thenE_norm ⟨rfl, rfl, rfl⟩)
      · simp only [List.take_succ_cons, List.take_zero]
        refine LW.skip rfl (fun _ e => by cases e; decide) rfl hg13_15 ?_
        refine LW.skip rfl (fun _ e => by cases e; decide) rfl hg13_15 ?_
        refine LW.want rfl rfl hg13_10 ?_
        refine r_pickF rfl rfl hg13_15 ?_
        refine LW.nil (thenE_norm ⟨rfl, rfl, rfl⟩)
      simp only [setL, keepE, upd_get, ev, Nat.reduceEqDiff, ↓reduceIte]; simp only [List.drop_succ_cons, List.drop_zero]
      refine LW.want rfl rfl hg13_10 ?_
      refine r_eqlB rfl Try.underlying4 rfl rfl ?_
      refine r_pickT rfl rfl hg13_10 ?_
      refine r_move rfl ?_
      refine LW.known (t := 88) (c := true) rfl (edge_byte v) (fun hg13_21 => ?_)
      refine LW.want rfl rfl hg13_21 ?_
      refine r_move rfl ?_
      refine LW.want rfl rfl hg13_21 ?_
      refine r_eql rfl rfl rfl ?_
      refine LW.want rfl rfl hg13_21 ?_
      refine r_move rfl ?_
      refine LW.want rfl rfl hg13_21 ?_
      refine r_lenS rfl Try.underlying9 rfl ?_
      refine LW.want rfl rfl hg13_21 ?_
      refine r_lss rfl rfl rfl ?_
      refine LW.want rfl rfl hg13_21 ?_
      refine r_eqlB rfl Try.underlying4 rfl rfl ?_
      refine r_pickT rfl rfl hg13_21 ?_
      refine r_move rfl ?_
      refine LW.known (t := 96) (c := true) rfl (edge_text ⟨(List.replicate (n % 600).toNat 0).toArray⟩) (fun hg13_29 => ?_)
      refine LW.want rfl rfl hg13_29 ?_
      refine r_move rfl ?_
      refine LW.want rfl rfl hg13_29 ?_
      refine r_move rfl ?_
      refine LW.want rfl rfl hg13_29 ?_
      refine r_eql rfl rfl rfl ?_
      refine r_pickT rfl rfl hg13_29 ?_
      refine r_move rfl ?_
      refine LW.known (t := 101) (c := true) rfl (by simp only [decide_eq_true_eq]; repeat' split; all_goals first | rfl | omega) (fun hg13_34 => ?_)
      refine LW.want rfl rfl hg13_34 ?_
      refine r_move rfl ?_
      refine LW.want rfl rfl hg13_34 ?_
      refine r_eql rfl rfl rfl ?_
      refine LW.want rfl rfl hg13_34 ?_
      refine r_move rfl ?_
      refine LW.want rfl rfl hg13_34 ?_
      refine r_convIw rfl Try.underlying34 Try.underlying5 rfl ?_
      rw [hwr]
      refine LW.want rfl rfl hg13_34 ?_
      refine r_lss rfl rfl rfl ?_
      refine LW.want rfl rfl hg13_34 ?_
      refine r_eqlB rfl Try.underlying4 rfl rfl ?_
      refine r_pickT rfl rfl hg13_34 ?_
      refine r_move rfl ?_
      refine LW.known (t := 109) (c := true) rfl (by by_cases h : (UInt8.ofNat n.toNat).toNat < 64 <;> simp [h] <;> omega) (fun hg13_42 => ?_)
      refine LW.want rfl rfl hg13_42 ?_
      refine r_call rfl Try.call15 rfl (awake_c _) ?_
      rintro _ wa ⟨rfl, hEa⟩
      refine ⟨_, rfl, ?_⟩
      refine r_pickT rfl rfl hg13_42 ?_
      refine r_assign rfl ?_
      refine LW.nil ?_
      refine thenE_norm ?_
      refine cut (K := K14) [6] (fun σ => ?_)
      simp only [setL, keepE, upd_get, ev, Nat.reduceEqDiff, ↓reduceIte]
      refine h14 _ _ ?_; clear h14; try clear K14
      refine CW.ret (ret1 Try.results8 (by simp only [upd_get, ev, Nat.reduceEqDiff, ↓reduceIte]; rfl) ?_)
      exact ⟨rfl, e8.trans hEa⟩
    · try simp only [decide_eq_true_eq, decide_eq_false_iff_not, Bool.and_eq_true, Bool.or_eq_true, Bool.and_eq_false_iff, Bool.or_eq_false_iff, Bool.not_eq_true', Bool.not_eq_false', beq_iff_eq, bne_iff_ne] at hc2
      refine CW.skip ?_
      refine thenE_norm (h10 _ _ ?_); clear h10; try clear K10
      refine CW.seq (fun K15 h15 => ?_)
      refine CW.region ?_
      refine r_move rfl ?_
      refine r_eql rfl rfl rfl ?_
      refine r_move rfl ?_
      refine r_geq rfl rfl rfl ?_
      refine r_move rfl ?_
      refine' LW.grpAnd (n := 3) (ts := [0, 1, 10, 11, 13, 17, 20, 21, 69, 77, 82, 88, 96, 101, 109]) (d := 75) (tj := 72) rfl (fun hg13_5 => ?_) (fun hg13_5 => ?_) (fun σ => ?_)
      rotate_left
      · simp only [List.take_succ_cons, List.take_zero]
        have hg13_5P := hg13_5
        try simp only [decide_eq_true_eq, decide_eq_false_iff_not, Bool.and_eq_true, Bool.or_eq_true, Bool.and_eq_false_iff, Bool.or_eq_false_iff, Bool.not_eq_true', Bool.not_eq_false', beq_iff_eq, bne_iff_ne] at hg13_5P
        refine LW.want rfl rfl hg13_5 ?_
        refine r_move rfl ?_
        refine LW.want rfl rfl hg13_5 ?_
        refine r_lss rfl rfl rfl ?_
        refine r_pickT rfl rfl hg13_5 ?_
        refine LW.nil (thenE_norm ⟨rfl, rfl, rfl⟩)
      · simp only [List.take_succ_cons, List.take_zero]
        refine LW.skip rfl (fun _ e => by cases e; decide) rfl hg13_5 ?_
        refine LW.skip rfl (fun _ e => by cases e; decide) rfl hg13_5 ?_
        refine r_pickF rfl rfl hg13_5 ?_
        refine LW.nil (thenE_norm ⟨rfl, rfl, rfl⟩)
      simp only [setL, keepE, upd_get, ev, Nat.reduceEqDiff, ↓reduceIte]; simp only [List.drop_succ_cons, List.drop_zero]
      refine r_eqlB rfl Try.underlying4 rfl rfl ?_
      refine r_move rfl ?_
      refine LW.known (t := 77) (c := true) rfl (edge_num v) (fun hg13_10 => ?_)
      refine LW.want rfl rfl hg13_10 ?_
      refine r_move rfl ?_
      refine LW.want rfl rfl hg13_10 ?_
      refine r_eql rfl rfl rfl ?_
      refine LW.want rfl rfl hg13_10 ?_
      refine r_move rfl ?_
      refine LW.want rfl rfl hg13_10 ?_
      refine r_geq rfl rfl rfl ?_
      refine LW.want rfl rfl hg13_10 ?_
      refine r_move rfl ?_
      refine' LW.grpAnd (n := 3) (ts := [1, 11, 13, 17, 20, 21, 77, 79, 88, 96, 101, 109]) (d := 85) (tj := 82) rfl (fun hg13_15 => ?_) (fun hg13_15 => ?_) (fun σ => ?_)
      rotate_left
      · simp only [List.take_succ_cons, List.take_zero]
        have hg13_15P := hg13_15
        try simp only [decide_eq_true_eq, decide_eq_false_iff_not, Bool.and_eq_true, Bool.or_eq_true, Bool.and_eq_false_iff, Bool.or_eq_false_iff, Bool.not_eq_true', Bool.not_eq_false', beq_iff_eq, bne_iff_ne] at hg13_15P
        refine LW.want rfl rfl hg13_15 ?_
        refine r_move rfl ?_
        refine LW.want rfl rfl hg13_15 ?_
        refine r_lss rfl rfl rfl ?_
        refine LW.want rfl rfl hg13_10 ?_
        refine r_pickT rfl rfl hg13_15 ?_
        refine LW.nil (thenE_norm ⟨rfl, rfl, rfl⟩)
      · simp only [List.take_succ_cons, List.take_zero]
        refine LW.skip rfl (fun _ e => by cases e; decide) rfl hg13_15 ?_
        refine LW.skip rfl (fun _ e => by cases e; decide) rfl hg13_15 ?_
        refine LW.want rfl rfl hg13_10 ?_
        refine r_pickF rfl rfl hg13_15 ?_
        refine LW.nil (thenE_norm ⟨rfl, rfl, rfl⟩)
      simp only [setL, keepE, upd_get, ev, Nat.reduceEqDiff, ↓reduceIte]; simp only [List.drop_succ_cons, List.drop_zero]
      refine LW.want rfl rfl hg13_10 ?_
      refine r_eqlB rfl Try.underlying4 rfl rfl ?_
      refine r_pickT rfl rfl hg13_10 ?_
      refine r_move rfl ?_
      refine LW.known (t := 88) (c := true) rfl (edge_byte v) (fun hg13_21 => ?_)
      refine LW.want rfl rfl hg13_21 ?_
      refine r_move rfl ?_
      refine LW.want rfl rfl hg13_21 ?_
      refine r_eql rfl rfl rfl ?_
      refine LW.want rfl rfl hg13_21 ?_
      refine r_move rfl ?_
      refine LW.want rfl rfl hg13_21 ?_
      refine r_lenS rfl Try.underlying9 rfl ?_
      refine LW.want rfl rfl hg13_21 ?_
      refine r_lss rfl rfl rfl ?_
      refine LW.want rfl rfl hg13_21 ?_
      refine r_eqlB rfl Try.underlying4 rfl rfl ?_
      refine r_pickT rfl rfl hg13_21 ?_
      refine r_move rfl ?_
      refine LW.known (t := 96) (c := true) rfl (edge_text ⟨(List.replicate (n % 600).toNat 0).toArray⟩) (fun hg13_29 => ?_)
      refine LW.want rfl rfl hg13_29 ?_
      refine r_move rfl ?_
      refine LW.want rfl rfl hg13_29 ?_
      refine r_move rfl ?_
      refine LW.want rfl rfl hg13_29 ?_
      refine r_eql rfl rfl rfl ?_
      refine r_pickT rfl rfl hg13_29 ?_
      refine r_move rfl ?_
      refine LW.known (t := 101) (c := true) rfl (by simp only [decide_eq_true_eq]; repeat' split; all_goals first | rfl | omega) (fun hg13_34 => ?_)
      refine LW.want rfl rfl hg13_34 ?_
      refine r_move rfl ?_
      refine LW.want rfl rfl hg13_34 ?_
      refine r_eql rfl rfl rfl ?_
      refine LW.want rfl rfl hg13_34 ?_
      refine r_move rfl ?_
      refine LW.want rfl rfl hg13_34 ?_
      refine r_convIw rfl Try.underlying34 Try.underlying5 rfl ?_
      rw [hwr]
      refine LW.want rfl rfl hg13_34 ?_
      refine r_lss rfl rfl rfl ?_
      refine LW.want rfl rfl hg13_34 ?_
      refine r_eqlB rfl Try.underlying4 rfl rfl ?_
      refine r_pickT rfl rfl hg13_34 ?_
      refine r_move rfl ?_
      refine LW.known (t := 109) (c := true) rfl (by by_cases h : (UInt8.ofNat n.toNat).toNat < 64 <;> simp [h] <;> omega) (fun hg13_42 => ?_)
      refine LW.want rfl rfl hg13_42 ?_
      refine r_call rfl Try.call15 rfl (awake_c _) ?_
      rintro _ wa ⟨rfl, hEa⟩
      refine ⟨_, rfl, ?_⟩
      refine r_pickT rfl rfl hg13_42 ?_
      refine r_assign rfl ?_
      refine LW.nil ?_
      refine thenE_norm ?_
      refine cut (K := K15) [6] (fun σ => ?_)
      simp only [setL, keepE, upd_get, ev, Nat.reduceEqDiff, ↓reduceIte]
      refine h15 _ _ ?_; clear h15; try clear K15
      refine CW.ret (ret1 Try.results8 (by simp only [upd_get, ev, Nat.reduceEqDiff, ↓reduceIte]; rfl) ?_)
      exact ⟨rfl, e8.trans hEa⟩
end Go.Proofs.Ytgcmafgcigipdaa
