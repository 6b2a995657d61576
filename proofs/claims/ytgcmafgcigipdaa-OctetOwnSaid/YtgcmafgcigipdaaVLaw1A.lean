/-
  The walks of layer 1's laws, the first part: Same, awake, OctetTexts, OctetAll.
-/
import Derived.Test.YtgcmafgcigipdaaVOctetF
import Derived.Test.YtgcmafgcigipdaaVLawA
namespace Go.Proofs.Ytgcmafgcigipdaa
set_option linter.unusedSimpArgs false
set_option linter.unusedVariables false
open Go.V Go.RowKit

theorem Same_c {F G : Nat → Prop} {a b : Value} {xs ys : List UInt8} (w : World) (ha : Bs F w a xs) (hb : Bs G w b ys) :
    Calls Try.prog 17 #[a, b] w fun e w' => e = .returned (.bool (decide (xs = ys))) ∧ w = w' := by
  refine calls_of_CW Try.func17 rfl Try.ntmps17 (Nat.le_of_ble_eq_true rfl) ?_
  simp only [argE, argFrom, Nat.reduceAdd]
  refine CW.seq (fun K1 h1 => ?_)
  refine CW.region ?_
  refine r_assign rfl ?_
  refine LW.nil ?_
  refine thenE_norm (h1 _ _ ?_); clear h1; try clear K1
  refine CW.seq (fun K2 h2 => ?_)
  refine CW.region ?_
  refine r_move rfl ?_
  refine r_b2s rfl Try.underlying23 Try.underlying5 Try.underlying9 rfl ha rfl ?_
  skip
  refine r_move rfl ?_
  refine r_b2s rfl Try.underlying23 Try.underlying5 Try.underlying9 rfl hb rfl ?_
  skip
  refine r_eqlS rfl rfl rfl ?_
  refine r_assign rfl ?_
  refine LW.nil ?_
  refine thenE_norm (h2 _ _ ?_); clear h2; try clear K2
  refine CW.ret (ret1 Try.results17 (by simp only [upd_get, ev, Nat.reduceEqDiff, ↓reduceIte]; rfl) ?_)
  exact ⟨by rw [ba_inj], rfl⟩

theorem awake_c (w : World) :
    Calls Try.prog 15 #[] w fun e w' => e = .returned (.bool true) ∧ Ext0 w w' := by
  refine calls_of_CW Try.func15 rfl Try.ntmps15 (Nat.le_of_ble_eq_true rfl) ?_
  simp only [argE, argFrom, Nat.reduceAdd]
  refine CW.seq (fun K1 h1 => ?_)
  refine CW.region ?_
  refine r_assign rfl ?_
  refine LW.nil ?_
  refine thenE_norm (h1 _ _ ?_); clear h1; try clear K1
  refine CW.seq (fun K2 h2 => ?_)
  refine CW.region ?_
  refine r_call rfl Try.call16 rfl (PutNum_c 258 _) ?_
  rintro _ w1 ⟨v1, rfl, hv1, hE1⟩
  refine ⟨_, rfl, ?_⟩
  have q1 : Bs (New w) w1 v1 [0, 0, 0, 0, 0, 0, 1, 2] := hv1
  refine r_move rfl ?_
  refine r_extract rfl rfl rfl ?_
  refine r_extract rfl rfl rfl ?_
  refine r_assign rfl ?_
  refine r_assign rfl ?_
  refine LW.nil ?_
  refine thenE_norm (h2 _ _ ?_); clear h2; try clear K2
  refine CW.seq (fun K3 h3 => ?_)
  refine CW.region ?_
  refine r_move rfl ?_
  refine r_call rfl Try.call24 rfl (Num_c 0 _ q1) ?_
  rintro _ w2 ⟨rfl, hE2⟩
  refine ⟨_, rfl, ?_⟩
  have e2 := hE1.trans hE2
  refine r_move rfl ?_
  refine r_extract rfl rfl rfl ?_
  refine r_extract rfl rfl rfl ?_
  refine r_extract rfl rfl rfl ?_
  refine r_assign rfl ?_
  refine r_assign rfl ?_
  refine r_assign rfl ?_
  refine LW.nil ?_
  refine thenE_norm ?_
  refine cut (K := K3) [1, 2, 3, 4, 5] (fun σ => ?_)
  simp only [setL, keepE, upd_get, ev, Nat.reduceEqDiff, ↓reduceIte]
  refine h3 _ _ ?_; clear h3; try clear K3
  refine CW.seq (fun K4 h4 => ?_)
  refine CW.region ?_
  refine r_call rfl Try.call18 rfl (PutText_c _ _) ?_
  rintro _ w3 ⟨v3, rfl, hv3, hE3⟩
  refine ⟨_, rfl, ?_⟩
  have e3 := e2.trans hE3
  have q3 : Bs (New w2) w3 v3 [2, 97, 98] := hv3
  refine r_move rfl ?_
  refine r_extract rfl rfl rfl ?_
  refine r_extract rfl rfl rfl ?_
  refine r_assign rfl ?_
  refine r_assign rfl ?_
  refine LW.nil ?_
  refine thenE_norm (h4 _ _ ?_); clear h4; try clear K4
  refine CW.seq (fun K5 h5 => ?_)
  refine CW.region ?_
  refine r_move rfl ?_
  refine r_buildSlice rfl Try.underlying23 Try.sizeOf5 Try.zeroValue5 rfl rfl rfl rfl ?_
  intro b4_1 w4_1 hb4_1 hs4_1 hE4_1 hB4_1
  have q4 : Bs (fun _ => True) w4_1 (.slice (some ⟨b4_1, 0, none⟩) 8 8) [0, 0, 0, 0, 0, 0, 1, 2] := Bs.ofBlk hB4_1 trivial rfl (by decide) (by decide)
  have e4 := e3.trans hE4_1
  have q14 := ((q1.up0 hE2).up0 hE3).up0 hE4_1
  have q34 := q3.up0 hE4_1
  refine r_call rfl Try.call17 rfl (Same_c _ q14 q4) ?_
  rintro _ w5 ⟨rfl, rfl⟩
  refine ⟨_, rfl, ?_⟩
  refine r_move rfl ?_
  refine LW.known (t := 25) (c := true) rfl rfl (fun hg4_4 => ?_)
  refine LW.want rfl rfl hg4_4 ?_
  refine r_move rfl ?_
  refine LW.want rfl rfl hg4_4 ?_
  refine r_eql rfl rfl rfl ?_
  refine r_pickT rfl rfl hg4_4 ?_
  refine r_move rfl ?_
  refine LW.known (t := 29) (c := true) rfl rfl (fun hg4_8 => ?_)
  refine LW.want rfl rfl hg4_8 ?_
  refine r_move rfl ?_
  refine LW.want rfl rfl hg4_8 ?_
  refine r_eql rfl rfl rfl ?_
  refine r_pickT rfl rfl hg4_8 ?_
  refine r_move rfl ?_
  refine LW.known (t := 33) (c := true) rfl (by decide +kernel) (fun hg4_12 => ?_)
  refine LW.want rfl rfl hg4_12 ?_
  refine r_move rfl ?_
  refine LW.want rfl rfl hg4_12 ?_
  refine r_eql rfl rfl rfl ?_
  refine r_pickT rfl rfl hg4_12 ?_
  refine r_move rfl ?_
  refine LW.known (t := 37) (c := true) rfl (by decide +kernel) (fun hg4_16 => ?_)
  refine LW.want rfl rfl hg4_16 ?_
  refine r_move rfl ?_
  refine LW.want rfl rfl hg4_16 ?_
  refine r_eql rfl rfl rfl ?_
  refine r_pickT rfl rfl hg4_16 ?_
  refine r_move rfl ?_
  refine LW.known (t := 41) (c := true) rfl (by decide +kernel) (fun hg4_20 => ?_)
  refine LW.want rfl rfl hg4_20 ?_
  refine r_move rfl ?_
  refine LW.want rfl rfl hg4_20 ?_
  refine r_buildSlice rfl Try.underlying23 Try.sizeOf5 Try.zeroValue5 rfl rfl rfl rfl ?_
  intro b4_21 w4_21 hb4_21 hs4_21 hE4_21 hB4_21
  have q5 : Bs (fun _ => True) w4_21 (.slice (some ⟨b4_21, 0, none⟩) 3 3) [2, 97, 98] := Bs.ofBlk hB4_21 trivial rfl (by decide) (by decide)
  have e5 := e4.trans hE4_21
  refine LW.want rfl rfl hg4_20 ?_
  refine r_call rfl Try.call17 rfl (Same_c _ (q34.up0 hE4_21) q5) ?_
  rintro _ w6 ⟨rfl, rfl⟩
  refine ⟨_, rfl, ?_⟩
  refine r_pickT rfl rfl hg4_20 ?_
  refine r_move rfl ?_
  refine LW.known (t := 46) (c := true) rfl rfl (fun hg4_25 => ?_)
  refine LW.want rfl rfl hg4_25 ?_
  refine r_move rfl ?_
  refine LW.want rfl rfl hg4_25 ?_
  refine r_eql rfl rfl rfl ?_
  refine r_pickT rfl rfl hg4_25 ?_
  refine r_move rfl ?_
  refine LW.known (t := 50) (c := true) rfl rfl (fun hg4_29 => ?_)
  refine LW.want rfl rfl hg4_29 ?_
  refine r_move rfl ?_
  refine LW.want rfl rfl hg4_29 ?_
  refine r_call rfl Try.call22 rfl (End_c 7 _ (q14.up0 hE4_21)) ?_
  rintro _ w7 ⟨rfl, rfl⟩
  refine ⟨_, rfl, ?_⟩
  refine LW.want rfl rfl hg4_29 ?_
  refine r_eql rfl rfl rfl ?_
  refine r_pickT rfl rfl hg4_29 ?_
  refine r_assign rfl ?_
  refine LW.nil ?_
  refine thenE_norm ?_
  refine cut (K := K5) [0] (fun σ => ?_)
  simp only [setL, keepE, upd_get, ev, Nat.reduceEqDiff, ↓reduceIte]
  refine h5 _ _ ?_; clear h5; try clear K5
  refine CW.ret (ret1 Try.results15 (by simp only [upd_get, ev, Nat.reduceEqDiff, ↓reduceIte]; rfl) ?_)
  exact ⟨by rfl, e5⟩

theorem OctetTexts_c {F : Nat → Prop} {b : Value} {xs : List UInt8} (s : ByteArray) (at_ most : Int) (w : World) (hb : Bs F w b xs) :
    Calls Try.prog 4 #[.string s, b, .int .i64 at_, .int .i64 most] w fun e w' => e = .returned (.bool true) ∧ Ext0 w w' := by
  have hb' := hb
  obtain ⟨ao, cap, rfl, hl, hm, -⟩ := hb.cell
  refine calls_of_CW Try.func4 rfl Try.ntmps4 (Nat.le_of_ble_eq_true rfl) ?_
  simp only [argE, argFrom, Nat.reduceAdd]
  refine CW.seq (fun K1 h1 => ?_)
  refine CW.region ?_
  refine r_assign rfl ?_
  refine LW.nil ?_
  refine thenE_norm (h1 _ _ ?_); clear h1; try clear K1
  refine CW.seq (fun K2 h2 => ?_)
  refine CW.seq (fun K3 h3 => ?_)
  refine CW.region ?_
  refine r_move rfl ?_
  refine r_lenS rfl Try.underlying9 rfl ?_
  refine r_gtr rfl rfl rfl ?_
  refine r_move rfl ?_
  refine' LW.grpOr (n := 4) (ts := [0, 1, 2, 3]) (d := 26) (tj := 22) rfl (fun hg1_4 => ?_) (fun hg1_4 => ?_) (fun σ => ?_)
  rotate_left
  · simp only [List.take_succ_cons, List.take_zero]
    have hg1_4P := hg1_4
    try simp only [decide_eq_true_eq, decide_eq_false_iff_not, Bool.and_eq_true, Bool.or_eq_true, Bool.and_eq_false_iff, Bool.or_eq_false_iff, Bool.not_eq_true', Bool.not_eq_false', beq_iff_eq, bne_iff_ne] at hg1_4P
    refine LW.want rfl rfl hg1_4 ?_
    refine r_move rfl ?_
    refine LW.want rfl rfl hg1_4 ?_
    refine r_len rfl Try.underlying23 rfl ?_
    refine LW.want rfl rfl hg1_4 ?_
    refine r_gtr rfl rfl rfl ?_
    refine r_pickF rfl rfl hg1_4 ?_
    refine LW.nil (thenE_norm ⟨rfl, rfl, rfl⟩)
  · simp only [List.take_succ_cons, List.take_zero]
    refine LW.skip rfl (fun _ e => by cases e; decide) rfl hg1_4 ?_
    refine LW.skip rfl (fun _ e => by cases e; decide) rfl hg1_4 ?_
    refine LW.skip rfl (fun _ e => by cases e; decide) rfl hg1_4 ?_
    refine r_pickT rfl rfl hg1_4 ?_
    refine LW.nil (thenE_norm ⟨rfl, rfl, rfl⟩)
  simp only [setL, keepE, upd_get, ev, Nat.reduceEqDiff, ↓reduceIte]; simp only [List.drop_succ_cons, List.drop_zero]
  refine LW.nil ?_
  refine thenE_norm (h3 _ _ ?_); clear h3; try clear K3
  refine CW.cond rfl (fun hc1 => ?_) (fun hc1 => ?_)
  · try simp only [decide_eq_true_eq, decide_eq_false_iff_not, Bool.and_eq_true, Bool.or_eq_true, Bool.and_eq_false_iff, Bool.or_eq_false_iff, Bool.not_eq_true', Bool.not_eq_false', beq_iff_eq, bne_iff_ne] at hc1
    refine CW.seq (fun K4 h4 => ?_)
    refine CW.region ?_
    refine r_call rfl Try.call15 rfl (awake_c _) ?_
    rintro _ wa ⟨rfl, hEa⟩
    refine ⟨_, rfl, ?_⟩
    refine r_assign rfl ?_
    refine LW.nil ?_
    refine thenE_norm (h4 _ _ ?_); clear h4; try clear K4
    refine CW.ret (thenE_ret (ret1 Try.results4 (by simp only [upd_get, ev, Nat.reduceEqDiff, ↓reduceIte]; rfl) ?_))
    exact ⟨rfl, hEa⟩
  · try simp only [decide_eq_true_eq, decide_eq_false_iff_not, Bool.and_eq_true, Bool.or_eq_true, Bool.and_eq_false_iff, Bool.or_eq_false_iff, Bool.not_eq_true', Bool.not_eq_false', beq_iff_eq, bne_iff_ne] at hc1
    refine CW.skip ?_
    refine thenE_norm (h2 _ _ ?_); clear h2; try clear K2
    refine CW.seq (fun K5 h5 => ?_)
    refine CW.region ?_
    refine r_move rfl ?_
    refine r_call rfl Try.call18 rfl (PutText_c s _) ?_
    rintro _ w1 ⟨v1, rfl, hv1, hE1⟩
    refine ⟨_, rfl, ?_⟩
    refine r_move rfl ?_
    refine r_extract rfl rfl rfl ?_
    refine r_extract rfl rfl rfl ?_
    refine r_assign rfl ?_
    refine r_assign rfl ?_
    refine LW.nil ?_
    refine thenE_norm (h5 _ _ ?_); clear h5; try clear K5
    refine CW.seq (fun K6 h6 => ?_)
    refine CW.region ?_
    refine r_move rfl ?_
    refine r_call rfl Try.call19 rfl (PutTextR_c s _) ?_
    rintro _ w2 ⟨v2, rfl, hv2, hE2⟩
    refine ⟨_, rfl, ?_⟩
    refine r_move rfl ?_
    refine r_extract rfl rfl rfl ?_
    refine r_extract rfl rfl rfl ?_
    refine r_assign rfl ?_
    refine r_assign rfl ?_
    refine LW.nil ?_
    refine thenE_norm ?_
    refine cut (K := K6) [1, 2, 3, 9, 10, 11, 12] (fun σ => ?_)
    simp only [setL, keepE, upd_get, ev, Nat.reduceEqDiff, ↓reduceIte]
    refine h6 _ _ ?_; clear h6; try clear K6
    refine CW.seq (fun K7 h7 => ?_)
    refine CW.region ?_
    refine r_move rfl ?_
    refine r_move rfl ?_
    refine r_move rfl ?_
    refine r_call rfl Try.call20 rfl (Text_c at_ most _ ((hb'.up0 hE1).up0 hE2)) ?_
    rintro _ w3 ⟨rfl, hE3⟩
    refine ⟨_, rfl, ?_⟩
    refine r_move rfl ?_
    refine r_extract rfl rfl rfl ?_
    refine r_extract rfl rfl rfl ?_
    refine r_extract rfl rfl rfl ?_
    refine r_assign rfl ?_
    refine r_assign rfl ?_
    refine r_assign rfl ?_
    refine LW.nil ?_
    refine thenE_norm ?_
    refine cut (K := K7) [1, 2, 3, 9, 10, 11, 12, 13, 14, 15] (fun σ => ?_)
    simp only [setL, keepE, upd_get, ev, Nat.reduceEqDiff, ↓reduceIte]
    refine h7 _ _ ?_; clear h7; try clear K7
    refine CW.seq (fun K8 h8 => ?_)
    refine CW.region ?_
    refine r_move rfl ?_
    refine r_move rfl ?_
    refine r_move rfl ?_
    refine r_call rfl Try.call21 rfl (TextR_c at_ most _ (((hb'.up0 hE1).up0 hE2).up0 hE3)) ?_
    rintro _ w4 ⟨rfl, rfl⟩
    refine ⟨_, rfl, ?_⟩
    refine r_move rfl ?_
    refine r_extract rfl rfl rfl ?_
    refine r_extract rfl rfl rfl ?_
    refine r_extract rfl rfl rfl ?_
    refine r_assign rfl ?_
    refine r_assign rfl ?_
    refine r_assign rfl ?_
    refine LW.nil ?_
    refine thenE_norm ?_
    refine cut (K := K8) [1, 2, 9, 10, 11, 12, 13, 14, 15, 16, 17, 18] (fun σ => ?_)
    simp only [setL, keepE, upd_get, ev, Nat.reduceEqDiff, ↓reduceIte]
    refine h8 _ _ ?_; clear h8; try clear K8
    refine CW.seq (fun K9 h9 => ?_)
    refine CW.region ?_
    refine r_move rfl ?_
    refine r_move rfl ?_
    refine r_call rfl Try.call17 rfl (Same_c _ ((hv1.up0 hE2).up0 hE3) (hv2.up0 hE3)) ?_
    rintro _ w5 ⟨rfl, rfl⟩
    refine ⟨_, rfl, ?_⟩
    refine r_move rfl ?_
    refine LW.known (t := 57) (c := true) rfl (by simp) (fun hg7_4 => ?_)
    refine LW.want rfl rfl hg7_4 ?_
    refine r_move rfl ?_
    refine LW.want rfl rfl hg7_4 ?_
    refine r_move rfl ?_
    refine LW.want rfl rfl hg7_4 ?_
    refine r_eql rfl rfl rfl ?_
    refine r_pickT rfl rfl hg7_4 ?_
    refine r_move rfl ?_
    refine LW.known (t := 62) (c := true) rfl (by simp) (fun hg7_9 => ?_)
    refine LW.want rfl rfl hg7_9 ?_
    refine r_move rfl ?_
    refine LW.want rfl rfl hg7_9 ?_
    refine r_move rfl ?_
    refine LW.want rfl rfl hg7_9 ?_
    refine r_eqlS rfl rfl rfl ?_
    refine r_pickT rfl rfl hg7_9 ?_
    refine r_move rfl ?_
    refine LW.known (t := 67) (c := true) rfl (by simp) (fun hg7_14 => ?_)
    refine LW.want rfl rfl hg7_14 ?_
    refine r_move rfl ?_
    refine LW.want rfl rfl hg7_14 ?_
    refine r_move rfl ?_
    refine LW.want rfl rfl hg7_14 ?_
    refine r_eql rfl rfl rfl ?_
    refine r_pickT rfl rfl hg7_14 ?_
    refine r_move rfl ?_
    refine LW.known (t := 72) (c := true) rfl (by simp) (fun hg7_19 => ?_)
    refine LW.want rfl rfl hg7_19 ?_
    refine r_move rfl ?_
    refine LW.want rfl rfl hg7_19 ?_
    refine r_move rfl ?_
    refine LW.want rfl rfl hg7_19 ?_
    refine r_eql rfl rfl rfl ?_
    refine r_pickT rfl rfl hg7_19 ?_
    refine r_move rfl ?_
    refine LW.known (t := 77) (c := true) rfl (by simp) (fun hg7_24 => ?_)
    refine LW.want rfl rfl hg7_24 ?_
    refine r_move rfl ?_
    refine LW.want rfl rfl hg7_24 ?_
    refine r_move rfl ?_
    refine LW.want rfl rfl hg7_24 ?_
    refine r_call rfl Try.call22 rfl (End_c at_ _ (((hb'.up0 hE1).up0 hE2).up0 hE3)) ?_
    rintro _ w6 ⟨rfl, rfl⟩
    refine ⟨_, rfl, ?_⟩
    refine LW.want rfl rfl hg7_24 ?_
    refine r_move rfl ?_
    refine LW.want rfl rfl hg7_24 ?_
    refine r_move rfl ?_
    refine LW.want rfl rfl hg7_24 ?_
    refine r_call rfl Try.call23 rfl (EndR_c at_ _ (((hb'.up0 hE1).up0 hE2).up0 hE3)) ?_
    rintro _ w7 ⟨rfl, rfl⟩
    refine ⟨_, rfl, ?_⟩
    refine LW.want rfl rfl hg7_24 ?_
    refine r_eql rfl rfl rfl ?_
    refine r_pickT rfl rfl hg7_24 ?_
    refine r_move rfl ?_
    refine LW.known (t := 86) (c := true) rfl (by simp) (fun hg7_33 => ?_)
    refine LW.want rfl rfl hg7_33 ?_
    refine r_call rfl Try.call15 rfl (awake_c _) ?_
    rintro _ wa ⟨rfl, hEa⟩
    refine ⟨_, rfl, ?_⟩
    refine r_pickT rfl rfl hg7_33 ?_
    refine r_assign rfl ?_
    refine LW.nil ?_
    refine thenE_norm ?_
    refine cut (K := K9) [8] (fun σ => ?_)
    simp only [setL, keepE, upd_get, ev, Nat.reduceEqDiff, ↓reduceIte]
    refine h9 _ _ ?_; clear h9; try clear K9
    refine CW.ret (ret1 Try.results4 (by simp only [upd_get, ev, Nat.reduceEqDiff, ↓reduceIte]; rfl) ?_)
    exact ⟨rfl, ((hE1.trans hE2).trans hE3).trans hEa⟩

theorem OctetAll_c {F : Nat → Prop} {b : Value} {xs : List UInt8} (v x : Int) (at_ : Int) (w : World) (hb : Bs F w b xs) :
    Calls Try.prog 7 #[.int .i64 v, .int .i64 x, b, .int .i64 at_] w fun e w' => e = .returned (.bool true) ∧ Ext0 w w' := by
  have hb' := hb
  obtain ⟨ao, cap, rfl, hl, hm, -⟩ := hb.cell
  refine calls_of_CW Try.func7 rfl Try.ntmps7 (Nat.le_of_ble_eq_true rfl) ?_
  simp only [argE, argFrom, Nat.reduceAdd]
  refine CW.seq (fun K1 h1 => ?_)
  refine CW.region ?_
  refine r_assign rfl ?_
  refine LW.nil ?_
  refine thenE_norm (h1 _ _ ?_); clear h1; try clear K1
  refine CW.seq (fun K2 h2 => ?_)
  refine CW.seq (fun K3 h3 => ?_)
  refine CW.region ?_
  refine r_move rfl ?_
  refine r_len rfl Try.underlying23 rfl ?_
  refine r_gtr rfl rfl rfl ?_
  refine LW.nil ?_
  refine thenE_norm (h3 _ _ ?_); clear h3; try clear K3
  refine CW.cond rfl (fun hc1 => ?_) (fun hc1 => ?_)
  · try simp only [decide_eq_true_eq, decide_eq_false_iff_not, Bool.and_eq_true, Bool.or_eq_true, Bool.and_eq_false_iff, Bool.or_eq_false_iff, Bool.not_eq_true', Bool.not_eq_false', beq_iff_eq, bne_iff_ne] at hc1
    refine CW.seq (fun K4 h4 => ?_)
    refine CW.region ?_
    refine r_call rfl Try.call15 rfl (awake_c _) ?_
    rintro _ wa ⟨rfl, hEa⟩
    refine ⟨_, rfl, ?_⟩
    refine r_assign rfl ?_
    refine LW.nil ?_
    refine thenE_norm (h4 _ _ ?_); clear h4; try clear K4
    refine CW.ret (thenE_ret (ret1 Try.results7 (by simp only [upd_get, ev, Nat.reduceEqDiff, ↓reduceIte]; rfl) ?_))
    exact ⟨rfl, hEa⟩
  · try simp only [decide_eq_true_eq, decide_eq_false_iff_not, Bool.and_eq_true, Bool.or_eq_true, Bool.and_eq_false_iff, Bool.or_eq_false_iff, Bool.not_eq_true', Bool.not_eq_false', beq_iff_eq, bne_iff_ne] at hc1
    refine CW.skip ?_
    refine thenE_norm (h2 _ _ ?_); clear h2; try clear K2
    refine CW.seq (fun K5 h5 => ?_)
    refine CW.region ?_
    refine r_move rfl ?_
    refine r_call rfl Try.call16 rfl (PutNum_c v _) ?_
    rintro _ w1 ⟨v1, rfl, hv1, hE1⟩
    refine ⟨_, rfl, ?_⟩
    refine r_move rfl ?_
    refine r_extract rfl rfl rfl ?_
    refine r_extract rfl rfl rfl ?_
    refine r_assign rfl ?_
    refine r_assign rfl ?_
    refine LW.nil ?_
    refine thenE_norm ?_
    refine cut (K := K5) [0, 1, 2, 3, 9, 10] (fun σ => ?_)
    simp only [setL, keepE, upd_get, ev, Nat.reduceEqDiff, ↓reduceIte]
    refine h5 _ _ ?_; clear h5; try clear K5
    refine CW.seq (fun K6 h6 => ?_)
    refine CW.region ?_
    refine r_move rfl ?_
    refine r_call rfl Try.call25 rfl (PutNumR_c v _) ?_
    rintro _ w2 ⟨v2, rfl, hv2, hE2⟩
    refine ⟨_, rfl, ?_⟩
    have e2 := hE1.trans hE2
    refine r_move rfl ?_
    refine r_extract rfl rfl rfl ?_
    refine r_extract rfl rfl rfl ?_
    refine r_assign rfl ?_
    refine r_assign rfl ?_
    refine LW.nil ?_
    refine thenE_norm (h6 _ _ ?_); clear h6; try clear K6
    refine CW.seq (fun K7 h7 => ?_)
    refine CW.region ?_
    refine r_move rfl ?_
    refine r_move rfl ?_
    refine r_call rfl Try.call24 rfl (Num_c at_ _ (hb'.up0 e2)) ?_
    rintro _ w3 ⟨rfl, hE3⟩
    refine ⟨_, rfl, ?_⟩
    have e3 := e2.trans hE3
    refine r_move rfl ?_
    refine r_extract rfl rfl rfl ?_
    refine r_extract rfl rfl rfl ?_
    refine r_extract rfl rfl rfl ?_
    refine r_assign rfl ?_
    refine r_assign rfl ?_
    refine r_assign rfl ?_
    refine LW.nil ?_
    refine thenE_norm ?_
    refine cut (K := K7) [1, 2, 3, 9, 10, 11, 12, 13, 14, 15] (fun σ => ?_)
    simp only [setL, keepE, upd_get, ev, Nat.reduceEqDiff, ↓reduceIte]
    refine h7 _ _ ?_; clear h7; try clear K7
    refine CW.seq (fun K8 h8 => ?_)
    refine CW.region ?_
    refine r_move rfl ?_
    refine r_move rfl ?_
    refine r_call rfl Try.call26 rfl (NumR_c at_ _ (hb'.up0 e3)) ?_
    rintro _ w4 ⟨rfl, rfl⟩
    refine ⟨_, rfl, ?_⟩
    refine r_move rfl ?_
    refine r_extract rfl rfl rfl ?_
    refine r_extract rfl rfl rfl ?_
    refine r_extract rfl rfl rfl ?_
    refine r_assign rfl ?_
    refine r_assign rfl ?_
    refine r_assign rfl ?_
    refine LW.nil ?_
    refine thenE_norm ?_
    refine cut (K := K8) [1, 2, 3, 9, 10, 11, 12, 13, 14, 15, 16, 17, 18] (fun σ => ?_)
    simp only [setL, keepE, upd_get, ev, Nat.reduceEqDiff, ↓reduceIte]
    refine h8 _ _ ?_; clear h8; try clear K8
    refine CW.seq (fun K9 h9 => ?_)
    refine CW.region ?_
    refine r_move rfl ?_
    refine r_call rfl Try.call27 rfl (PutByte_c x _) ?_
    rintro _ w5 ⟨v5, rfl, hv5, hE5⟩
    refine ⟨_, rfl, ?_⟩
    have e5 := e3.trans hE5
    refine r_move rfl ?_
    refine r_extract rfl rfl rfl ?_
    refine r_extract rfl rfl rfl ?_
    refine r_assign rfl ?_
    refine r_assign rfl ?_
    refine LW.nil ?_
    refine thenE_norm (h9 _ _ ?_); clear h9; try clear K9
    refine CW.seq (fun K10 h10 => ?_)
    refine CW.region ?_
    refine r_move rfl ?_
    refine r_call rfl Try.call28 rfl (PutByteR_c x _) ?_
    rintro _ w6 ⟨v6, rfl, hv6, hE6⟩
    refine ⟨_, rfl, ?_⟩
    have e6 := e5.trans hE6
    refine r_move rfl ?_
    refine r_extract rfl rfl rfl ?_
    refine r_extract rfl rfl rfl ?_
    refine r_assign rfl ?_
    refine r_assign rfl ?_
    refine LW.nil ?_
    refine thenE_norm ?_
    refine cut (K := K10) [2, 3, 9, 10, 11, 12, 13, 14, 15, 16, 17, 18, 19, 20, 21, 22] (fun σ => ?_)
    simp only [setL, keepE, upd_get, ev, Nat.reduceEqDiff, ↓reduceIte]
    refine h10 _ _ ?_; clear h10; try clear K10
    refine CW.seq (fun K11 h11 => ?_)
    refine CW.region ?_
    refine r_move rfl ?_
    refine r_move rfl ?_
    refine r_call rfl Try.call29 rfl (Byte_c at_ _ (hb'.up0 e6)) ?_
    rintro _ w7 ⟨rfl, hE7⟩
    refine ⟨_, rfl, ?_⟩
    have e7 := e6.trans hE7
    refine r_move rfl ?_
    refine r_extract rfl rfl rfl ?_
    refine r_extract rfl rfl rfl ?_
    refine r_extract rfl rfl rfl ?_
    refine r_assign rfl ?_
    refine r_assign rfl ?_
    refine r_assign rfl ?_
    refine LW.nil ?_
    refine thenE_norm ?_
    refine cut (K := K11) [2, 3, 9, 10, 11, 12, 13, 14, 15, 16, 17, 18, 19, 20, 21, 22, 23, 24, 25] (fun σ => ?_)
    simp only [setL, keepE, upd_get, ev, Nat.reduceEqDiff, ↓reduceIte]
    refine h11 _ _ ?_; clear h11; try clear K11
    refine CW.seq (fun K12 h12 => ?_)
    refine CW.region ?_
    refine r_move rfl ?_
    refine r_move rfl ?_
    refine r_call rfl Try.call30 rfl (ByteR_c at_ _ (hb'.up0 e7)) ?_
    rintro _ w8 ⟨rfl, rfl⟩
    refine ⟨_, rfl, ?_⟩
    refine r_move rfl ?_
    refine r_extract rfl rfl rfl ?_
    refine r_extract rfl rfl rfl ?_
    refine r_extract rfl rfl rfl ?_
    refine r_assign rfl ?_
    refine r_assign rfl ?_
    refine r_assign rfl ?_
    refine LW.nil ?_
    refine thenE_norm ?_
    refine cut (K := K12) [9, 10, 11, 12, 13, 14, 15, 16, 17, 18, 19, 20, 21, 22, 23, 24, 25, 26, 27, 28] (fun σ => ?_)
    simp only [setL, keepE, upd_get, ev, Nat.reduceEqDiff, ↓reduceIte]
    refine h12 _ _ ?_; clear h12; try clear K12
    refine CW.seq (fun K13 h13 => ?_)
    refine CW.region ?_
    refine r_move rfl ?_
    refine r_move rfl ?_
    refine r_call rfl Try.call17 rfl (Same_c _ (hv1.up0 (((hE2.trans hE3).trans hE5).trans hE6 |>.trans hE7)) (hv2.up0 ((hE3.trans hE5).trans hE6 |>.trans hE7))) ?_
    rintro _ w9 ⟨rfl, rfl⟩
    refine ⟨_, rfl, ?_⟩
    refine r_move rfl ?_
    refine LW.known (t := 84) (c := true) rfl (by simp) (fun hg11_4 => ?_)
    refine LW.want rfl rfl hg11_4 ?_
    refine r_move rfl ?_
    refine LW.want rfl rfl hg11_4 ?_
    refine r_move rfl ?_
    refine LW.want rfl rfl hg11_4 ?_
    refine r_eql rfl rfl rfl ?_
    refine r_pickT rfl rfl hg11_4 ?_
    refine r_move rfl ?_
    refine LW.known (t := 89) (c := true) rfl (by simp) (fun hg11_9 => ?_)
    refine LW.want rfl rfl hg11_9 ?_
    refine r_move rfl ?_
    refine LW.want rfl rfl hg11_9 ?_
    refine r_move rfl ?_
    refine LW.want rfl rfl hg11_9 ?_
    refine r_eql rfl rfl rfl ?_
    refine r_pickT rfl rfl hg11_9 ?_
    refine r_move rfl ?_
    refine LW.known (t := 94) (c := true) rfl (by simp) (fun hg11_14 => ?_)
    refine LW.want rfl rfl hg11_14 ?_
    refine r_move rfl ?_
    refine LW.want rfl rfl hg11_14 ?_
    refine r_move rfl ?_
    refine LW.want rfl rfl hg11_14 ?_
    refine r_eql rfl rfl rfl ?_
    refine r_pickT rfl rfl hg11_14 ?_
    refine r_move rfl ?_
    refine LW.known (t := 99) (c := true) rfl (by simp) (fun hg11_19 => ?_)
    refine LW.want rfl rfl hg11_19 ?_
    refine r_move rfl ?_
    refine LW.want rfl rfl hg11_19 ?_
    refine r_move rfl ?_
    refine LW.want rfl rfl hg11_19 ?_
    refine r_eql rfl rfl rfl ?_
    refine r_pickT rfl rfl hg11_19 ?_
    refine r_move rfl ?_
    refine LW.known (t := 104) (c := true) rfl (by simp) (fun hg11_24 => ?_)
    refine LW.want rfl rfl hg11_24 ?_
    refine r_move rfl ?_
    refine LW.want rfl rfl hg11_24 ?_
    refine r_move rfl ?_
    refine LW.want rfl rfl hg11_24 ?_
    refine r_call rfl Try.call17 rfl (Same_c _ (hv5.up0 (hE6.trans hE7)) (hv6.up0 hE7)) ?_
    rintro _ w10 ⟨rfl, rfl⟩
    refine ⟨_, rfl, ?_⟩
    refine r_pickT rfl rfl hg11_24 ?_
    refine r_move rfl ?_
    refine LW.known (t := 109) (c := true) rfl (by simp) (fun hg11_29 => ?_)
    refine LW.want rfl rfl hg11_29 ?_
    refine r_move rfl ?_
    refine LW.want rfl rfl hg11_29 ?_
    refine r_move rfl ?_
    refine LW.want rfl rfl hg11_29 ?_
    refine r_eql rfl rfl rfl ?_
    refine r_pickT rfl rfl hg11_29 ?_
    refine r_move rfl ?_
    refine LW.known (t := 114) (c := true) rfl (by simp) (fun hg11_34 => ?_)
    refine LW.want rfl rfl hg11_34 ?_
    refine r_move rfl ?_
    refine LW.want rfl rfl hg11_34 ?_
    refine r_move rfl ?_
    refine LW.want rfl rfl hg11_34 ?_
    refine r_eql rfl rfl rfl ?_
    refine r_pickT rfl rfl hg11_34 ?_
    refine r_move rfl ?_
    refine LW.known (t := 119) (c := true) rfl (by simp) (fun hg11_39 => ?_)
    refine LW.want rfl rfl hg11_39 ?_
    refine r_move rfl ?_
    refine LW.want rfl rfl hg11_39 ?_
    refine r_move rfl ?_
    refine LW.want rfl rfl hg11_39 ?_
    refine r_eql rfl rfl rfl ?_
    refine r_pickT rfl rfl hg11_39 ?_
    refine r_move rfl ?_
    refine LW.known (t := 124) (c := true) rfl (by simp) (fun hg11_44 => ?_)
    refine LW.want rfl rfl hg11_44 ?_
    refine r_move rfl ?_
    refine LW.want rfl rfl hg11_44 ?_
    refine r_move rfl ?_
    refine LW.want rfl rfl hg11_44 ?_
    refine r_eql rfl rfl rfl ?_
    refine r_pickT rfl rfl hg11_44 ?_
    refine r_move rfl ?_
    refine LW.known (t := 129) (c := true) rfl (by simp) (fun hg11_49 => ?_)
    refine LW.want rfl rfl hg11_49 ?_
    refine r_call rfl Try.call15 rfl (awake_c _) ?_
    rintro _ wa ⟨rfl, hEa⟩
    refine ⟨_, rfl, ?_⟩
    refine r_pickT rfl rfl hg11_49 ?_
    refine r_assign rfl ?_
    refine LW.nil ?_
    refine thenE_norm ?_
    refine cut (K := K13) [8] (fun σ => ?_)
    simp only [setL, keepE, upd_get, ev, Nat.reduceEqDiff, ↓reduceIte]
    refine h13 _ _ ?_; clear h13; try clear K13
    refine CW.ret (ret1 Try.results7 (by simp only [upd_get, ev, Nat.reduceEqDiff, ↓reduceIte]; rfl) ?_)
    exact ⟨rfl, e7.trans hEa⟩
end Go.Proofs.Ytgcmafgcigipdaa
