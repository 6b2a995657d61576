/-
  The walks of layer 1's laws, the fourth part: OctetOwn.
-/
import Derived.Test.YtgcmafgcigipdaaVLaw1C
namespace Go.Proofs.Ytgcmafgcigipdaa
set_option linter.unusedSimpArgs false
set_option linter.unusedVariables false
open Go.V Go.RowKit

theorem PutNum_o (n : Int) (w : World) :
    Calls Try.prog 16 #[.int .i64 n] w fun e w' => ∃ v g, e = .returned (.tuple #[v, .int .i64 (putNumM n).2]) ∧ Own 5 1 w' v (putNumM n).1.length ((putNumM n).1.map u8v) g ∧ (∀ b, g = some b → w.heap.size ≤ b) ∧ Ext0 w w' := by
  by_cases h : 0 ≤ n ∧ n < 4611686018427387904
  · simp only [putNumM, if_pos h]
    have h0 := h.1
    have h1 := h.2
    refine calls_of_CW Try.func16 rfl Try.ntmps16 (Nat.le_of_ble_eq_true rfl) ?_
    simp only [argE, argFrom, Nat.reduceAdd]
    refine CW.seq (fun K1 h1 => ?_)
    refine CW.region ?_
    refine r_assign rfl ?_
    refine r_assign rfl ?_
    refine LW.nil ?_
    refine thenE_norm (h1 _ _ ?_); clear h1; try clear K1
    refine CW.seq (fun K2 h2 => ?_)
    refine CW.seq (fun K3 h3 => ?_)
    refine CW.region ?_
    refine r_move rfl ?_
    refine r_lss rfl rfl rfl ?_
    refine r_move rfl ?_
    refine' LW.grpOr (n := 3) (ts := [0]) (d := 11) (tj := 8) rfl (fun hg1_3 => ?_) (fun hg1_3 => ?_) (fun σ => ?_)
    rotate_left
    · simp only [List.take_succ_cons, List.take_zero]
      have hg1_3P := hg1_3
      try simp only [decide_eq_true_eq, decide_eq_false_iff_not, Bool.and_eq_true, Bool.or_eq_true, Bool.and_eq_false_iff, Bool.or_eq_false_iff, Bool.not_eq_true', Bool.not_eq_false', beq_iff_eq, bne_iff_ne] at hg1_3P
      refine LW.want rfl rfl hg1_3 ?_
      refine r_move rfl ?_
      refine LW.want rfl rfl hg1_3 ?_
      refine r_geq rfl rfl rfl ?_
      refine r_pickF rfl rfl hg1_3 ?_
      refine LW.nil (thenE_norm ⟨rfl, rfl, rfl⟩)
    · simp only [List.take_succ_cons, List.take_zero]
      refine LW.skip rfl (fun _ e => by cases e; decide) rfl hg1_3 ?_
      refine LW.skip rfl (fun _ e => by cases e; decide) rfl hg1_3 ?_
      refine r_pickT rfl rfl hg1_3 ?_
      refine LW.nil (thenE_norm ⟨rfl, rfl, rfl⟩)
    simp only [setL, keepE, upd_get, ev, Nat.reduceEqDiff, ↓reduceIte]; simp only [List.drop_succ_cons, List.drop_zero]
    refine LW.nil ?_
    refine thenE_norm (h3 _ _ ?_); clear h3; try clear K3
    refine CW.condF rfl (by simp; omega) ?_
    refine CW.skip ?_
    refine thenE_norm (h2 _ _ ?_); clear h2; try clear K2
    refine CW.seq (fun K4 h4 => ?_)
    refine CW.region ?_
    refine r_make rfl Try.underlying23 Try.type5 rfl rfl rfl rfl rfl (by decide) (by decide) (by decide) (by decide) ?_
    intro b3_0 w3_0 hb3_0 hs3_0 hE3_0 hB3_0
    refine r_assign rfl ?_
    refine LW.nil ?_
    refine thenE_norm (h4 _ _ ?_); clear h4; try clear K4
    refine CW.seq (fun K5 h5 => ?_)
    refine CW.seq (fun K6 h6 => ?_)
    refine CW.region ?_
    refine r_move rfl ?_
    refine r_len rfl Try.underlying23 rfl ?_
    refine r_move rfl ?_
    refine LW.nil ?_
    refine thenE_norm (h6 _ _ ?_); clear h6; try clear K6
    refine CW.block ?_
    refine CW.loopR [0, 4, 14] [15] (fun m vs w' => ∃ i : Int, vs = [.int .i64 i] ∧ 0 ≤ i ∧ i ≤ 8 ∧ m = (8 - i).toNat ∧ Blk w' b3_0 5 (pn n.toNat i.toNat) ∧ Ext0 w w') (8) ?_ ?_
    · exact ⟨0, rfl, by omega, by omega, rfl, by rw [show (0 : Int).toNat = 0 from rfl, pn_zero]; exact hB3_0, hE3_0⟩
    rintro n1 vs1 wL1 σ ⟨i, rfl, hi0, hi8, rfl, hB, hE⟩
    simp only [setL, keepE, upd_get, ev, Nat.reduceEqDiff, ↓reduceIte]
    refine CW.seq (fun K7 h7 => ?_)
    refine CW.region ?_
    refine r_lss rfl rfl rfl ?_
    refine LW.nil ?_
    refine thenE_norm (h7 _ _ ?_); clear h7; try clear K7
    refine CW.seq (fun K8 h8 => ?_)
    refine CW.cond rfl (fun hc2 => ?_) (fun hc2 => ?_)
    · try simp only [decide_eq_true_eq, decide_eq_false_iff_not, Bool.and_eq_true, Bool.or_eq_true, Bool.and_eq_false_iff, Bool.or_eq_false_iff, Bool.not_eq_true', Bool.not_eq_false', beq_iff_eq, bne_iff_ne] at hc2
      refine CW.skip ?_
      refine thenE_norm (h8 _ _ ?_); clear h8; try clear K8
      refine CW.seq (fun K9 h9 => ?_)
      refine CW.block ?_
      refine CW.seq (fun K10 h10 => ?_)
      refine CW.region ?_
      refine r_move rfl ?_
      refine r_assign rfl ?_
      refine LW.nil ?_
      refine thenE_norm (h10 _ _ ?_); clear h10; try clear K10
      refine CW.region ?_
      refine r_move rfl ?_
      refine r_move rfl ?_
      refine r_move rfl ?_
      refine r_move rfl ?_
      refine r_sub rfl rfl rfl (wr_i64 (by omega) (by omega)) ?_
      refine r_mul rfl rfl rfl (wr_i64 (by omega) (by omega)) ?_
      refine r_shr rfl rfl rfl (by omega) (by simp [IntKind.bits]; omega) ?_
      refine r_convIw rfl Try.underlying3 Try.underlying5 rfl ?_
      refine r_indexAddr rfl Try.underlying23 Try.sizeOf5 rfl rfl hi0 (by omega) ?_
      refine r_store Try.sizeOf5 rfl (by simp only [upd_get, ev, Nat.reduceEqDiff, ↓reduceIte]; rfl) rfl hB (by rw [pn_len]; omega) ?_
      intro w7_9 hs7_9 hE7_9 hB7_9
      try simp only [Nat.zero_add, Nat.mul_one] at hB7_9
      refine LW.nil ?_
      refine blockE_norm ?_
      refine thenE_norm (h9 _ _ ?_); clear h9; try clear K9
      refine CW.region ?_
      refine r_add rfl rfl rfl (wr_i64 (by omega) (by omega)) ?_
      refine r_move rfl ?_
      refine LW.nil ?_
      refine thenE_norm ⟨rfl, ?_⟩
      exact ⟨_, by omega, i + 1, rfl, by omega, by omega, rfl, by rw [pn_set _ _ (by omega) _ (byte_at n i h0 hi0 (by omega))] at hB7_9; rw [show (i + 1).toNat = i.toNat + 1 from by omega]; exact hB7_9, hE.transN hE7_9 (fun x hx => by subst hx; omega)⟩
    · try simp only [decide_eq_true_eq, decide_eq_false_iff_not, Bool.and_eq_true, Bool.or_eq_true, Bool.and_eq_false_iff, Bool.or_eq_false_iff, Bool.not_eq_true', Bool.not_eq_false', beq_iff_eq, bne_iff_ne] at hc2
      refine CW.exit (thenE_exit (thenE_exit (blockE_hit ?_)))
      refine thenE_norm (h5 _ _ ?_); clear h5; try clear K5
      refine CW.seq (fun K11 h11 => ?_)
      refine CW.region ?_
      refine r_move rfl ?_
      refine r_assign rfl ?_
      refine r_assign rfl ?_
      refine LW.nil ?_
      refine thenE_norm (h11 _ _ ?_); clear h11; try clear K11
      refine CW.ret (ret2 Try.results16 (by simp only [upd_get, ev, Nat.reduceEqDiff, ↓reduceIte]; rfl) (by simp only [upd_get, ev, Nat.reduceEqDiff, ↓reduceIte]; rfl) ?_)
      have hi : i = 8 := by omega
      subst hi
      rw [show (8 : Int).toNat = 8 from rfl, pn_eight] at hB
      exact ⟨_, some b3_0, rfl, Own.blk hB (by rw [List.length_map, eight_len]; rfl) (by decide) rfl, (fun b hb => by cases hb; omega), hE⟩
  · refine (PutNum_err n w (by omega)).mono fun e w' => ?_
    simp only [putNumM, if_neg h]
    rintro ⟨rfl, rfl⟩
    exact ⟨_, none, rfl, Own.nil _ _ _, (fun b hb => by cases hb), Ext.refl _ _⟩

theorem PutText_o (s : ByteArray) (w : World) :
    Calls Try.prog 18 #[.string s] w fun e w' => ∃ v g, e = .returned (.tuple #[v, .int .i64 (putTextM s.data.toList).2]) ∧ Own 5 1 w' v (putTextM s.data.toList).1.length ((putTextM s.data.toList).1.map u8v) g ∧ (∀ b, g = some b → w.heap.size ≤ b) ∧ Ext0 w w' := by
  have hsz : s.data.toList.length = s.size := by simp
  refine calls_of_CW Try.func18 rfl Try.ntmps18 (Nat.le_of_ble_eq_true rfl) ?_
  simp only [argE, argFrom, Nat.reduceAdd]
  refine CW.seq (fun K1 h1 => ?_)
  refine CW.region ?_
  refine r_assign rfl ?_
  refine r_assign rfl ?_
  refine LW.nil ?_
  refine thenE_norm (h1 _ _ ?_); clear h1; try clear K1
  refine CW.seq (fun K2 h2 => ?_)
  refine CW.seq (fun K3 h3 => ?_)
  refine CW.region ?_
  refine r_move rfl ?_
  refine r_lenS rfl Try.underlying9 rfl ?_
  refine r_gtr rfl rfl rfl ?_
  refine LW.nil ?_
  refine thenE_norm (h3 _ _ ?_); clear h3; try clear K3
  refine CW.cond rfl (fun hc1 => ?_) (fun hc1 => ?_)
  · try simp only [decide_eq_true_eq, decide_eq_false_iff_not, Bool.and_eq_true, Bool.or_eq_true, Bool.and_eq_false_iff, Bool.or_eq_false_iff, Bool.not_eq_true', Bool.not_eq_false', beq_iff_eq, bne_iff_ne] at hc1
    refine CW.seq (fun K4 h4 => ?_)
    refine CW.region ?_
    refine r_assign rfl ?_
    refine r_assign rfl ?_
    refine LW.nil ?_
    refine thenE_norm (h4 _ _ ?_); clear h4; try clear K4
    refine CW.ret (thenE_ret (ret2 Try.results18 (by simp only [upd_get, ev, Nat.reduceEqDiff, ↓reduceIte]; rfl) (by simp only [upd_get, ev, Nat.reduceEqDiff, ↓reduceIte]; rfl) ?_))
    rw [putTextM, if_neg (by omega)]
    exact ⟨_, none, rfl, Own.nil _ _ _, (fun b hb => by cases hb), Ext.refl _ _⟩
  · try simp only [decide_eq_true_eq, decide_eq_false_iff_not, Bool.and_eq_true, Bool.or_eq_true, Bool.and_eq_false_iff, Bool.or_eq_false_iff, Bool.not_eq_true', Bool.not_eq_false', beq_iff_eq, bne_iff_ne] at hc1
    refine CW.skip ?_
    refine thenE_norm (h2 _ _ ?_); clear h2; try clear K2
    refine CW.seq (fun K5 h5 => ?_)
    refine CW.region ?_
    refine r_move rfl ?_
    refine r_lenS rfl Try.underlying9 rfl ?_
    refine r_convI rfl Try.underlying3 Try.underlying5 rfl (wr_u8 (by omega) (by omega)) ?_
    refine r_buildSlice rfl Try.underlying23 Try.sizeOf5 Try.zeroValue5 rfl rfl rfl rfl ?_
    intro b3_3 w3_3 hb3_3 hs3_3 hE3_3 hB3_3
    have hB : Blk w3_3 b3_3 5 [.int .u8 s.size] := hB3_3
    refine r_move rfl ?_
    refine r_append rfl Try.underlying23 (.inr Try.underlying9) Try.type5 rfl rfl rfl rfl rfl rfl (Own.blk (n := 1) hB rfl (by decide) rfl) (Src.string s) (by simp [maxLen]; omega) (by show (1 + s.size) * 1 ≤ _; omega) ?_
    intro v3_5 w3_5 g3_5 hO3_5 hE3_5 hG3_5 hN3_5
    refine r_assign rfl ?_
    refine r_assign rfl ?_
    refine LW.nil ?_
    refine thenE_norm ?_
    refine cut (K := K5) [2, 3] (fun σ => ?_)
    simp only [setL, keepE, upd_get, ev, Nat.reduceEqDiff, ↓reduceIte]
    refine h5 _ _ ?_; clear h5; try clear K5
    refine CW.ret (ret2 Try.results18 (by simp only [upd_get, ev, Nat.reduceEqDiff, ↓reduceIte]; rfl) (by simp only [upd_get, ev, Nat.reduceEqDiff, ↓reduceIte]; rfl) ?_)
    rw [putTextM, if_pos (by omega)]
    refine ⟨_, g3_5, rfl, ?_, fun b h => ?_, hE3_3.transN hE3_5 (fun x hx => by cases hx; omega)⟩
    · rw [show (UInt8.ofNat s.data.toList.length :: s.data.toList).length = 1 + s.size from by simp; omega,
        show (UInt8.ofNat s.data.toList.length :: s.data.toList).map u8v = [.int .u8 s.size] ++ s.data.toList.map u8v from by simp [u8v]; omega]
      exact hO3_5
    · rcases hG3_5 b h with h | h
      · cases h; omega
      · omega

theorem OctetOwn_c {F : Nat → Prop} {b : Value} {xs : List UInt8} (v : Int) (s : ByteArray) (at_ : Int) (w : World) (hb : Bs F w b xs) :
    Calls Try.prog 6 #[.int .i64 v, .string s, b, .int .i64 at_] w fun e w' => e = .returned (.bool true) ∧ Ext0 w w' := by
  have hb' := hb
  obtain ⟨aob, capb, rfl, -, -, -⟩ := hb.cell
  have hsz : s.data.toList.length = s.size := by simp
  refine calls_of_CW Try.func6 rfl Try.ntmps6 (Nat.le_of_ble_eq_true rfl) ?_
  simp only [argE, argFrom, Nat.reduceAdd]
  refine CW.seq (fun K1 h1 => ?_)
  refine CW.region ?_
  refine r_assign rfl ?_
  refine LW.nil ?_
  refine thenE_norm (h1 _ _ ?_); clear h1; try clear K1
  refine CW.seq (fun K2 h2 => ?_)
  refine CW.seq (fun K3 h3 => ?_)
  refine CW.region ?_
  refine r_move rfl ?_
  refine r_lenS rfl Try.underlying9 rfl ?_
  refine r_gtr rfl rfl rfl ?_
  refine r_move rfl ?_
  refine' LW.grpOr (n := 4) (ts := [0, 1, 2, 3]) (d := 39) (tj := 35) rfl (fun hg1_4 => ?_) (fun hg1_4 => ?_) (fun σ => ?_)
  rotate_left
  · simp only [List.take_succ_cons, List.take_zero]
    have hg1_4P := hg1_4
    try simp only [decide_eq_true_eq, decide_eq_false_iff_not, Bool.and_eq_true, Bool.or_eq_true, Bool.and_eq_false_iff, Bool.or_eq_false_iff, Bool.not_eq_true', Bool.not_eq_false', beq_iff_eq, bne_iff_ne] at hg1_4P
    refine LW.want rfl rfl hg1_4 ?_
    refine r_move rfl ?_
    refine LW.want rfl rfl hg1_4 ?_
    refine r_len rfl Try.underlying23 rfl ?_
    refine LW.want rfl rfl hg1_4 ?_
    refine r_gtr rfl rfl rfl ?_
    refine r_pickF rfl rfl hg1_4 ?_
    refine LW.nil (thenE_norm ⟨rfl, rfl, rfl⟩)
  · simp only [List.take_succ_cons, List.take_zero]
    refine LW.skip rfl (fun _ e => by cases e; decide) rfl hg1_4 ?_
    refine LW.skip rfl (fun _ e => by cases e; decide) rfl hg1_4 ?_
    refine LW.skip rfl (fun _ e => by cases e; decide) rfl hg1_4 ?_
    refine r_pickT rfl rfl hg1_4 ?_
    refine LW.nil (thenE_norm ⟨rfl, rfl, rfl⟩)
  simp only [setL, keepE, upd_get, ev, Nat.reduceEqDiff, ↓reduceIte]; simp only [List.drop_succ_cons, List.drop_zero]
  refine LW.nil ?_
  refine thenE_norm (h3 _ _ ?_); clear h3; try clear K3
  refine CW.cond rfl (fun hc1 => ?_) (fun hc1 => ?_)
  · try simp only [decide_eq_true_eq, decide_eq_false_iff_not, Bool.and_eq_true, Bool.or_eq_true, Bool.and_eq_false_iff, Bool.or_eq_false_iff, Bool.not_eq_true', Bool.not_eq_false', beq_iff_eq, bne_iff_ne] at hc1
    refine CW.seq (fun K4 h4 => ?_)
    refine CW.region ?_
    refine r_call rfl Try.call15 rfl (awake_c _) ?_
    rintro _ wa ⟨rfl, hEa⟩
    refine ⟨_, rfl, ?_⟩
    refine r_assign rfl ?_
    refine LW.nil ?_
    refine thenE_norm (h4 _ _ ?_); clear h4; try clear K4
    refine CW.ret (thenE_ret (ret1 Try.results6 (by simp only [upd_get, ev, Nat.reduceEqDiff, ↓reduceIte]; rfl) ?_))
    exact ⟨rfl, hEa⟩
  · try simp only [decide_eq_true_eq, decide_eq_false_iff_not, Bool.and_eq_true, Bool.or_eq_true, Bool.and_eq_false_iff, Bool.or_eq_false_iff, Bool.not_eq_true', Bool.not_eq_false', beq_iff_eq, bne_iff_ne] at hc1
    refine CW.skip ?_
    refine thenE_norm (h2 _ _ ?_); clear h2; try clear K2
    refine CW.seq (fun K5 h5 => ?_)
    refine CW.region ?_
    refine r_buildSlice rfl Try.underlying23 Try.sizeOf5 Try.zeroValue5 rfl rfl rfl rfl ?_
    intro b3_0 w3_0 hb3_0 hs3_0 hE3_0 hB3_0
    refine r_move rfl ?_
    refine r_append rfl Try.underlying23 (.inl ⟨_, Try.underlying23⟩) Try.type5 rfl rfl rfl rfl rfl rfl (Own.blk (n := 0) hB3_0 rfl (by decide) rfl) (Bs.src (hb'.up0 hE3_0)) (by simp [maxLen]; omega) (by show (0 + xs.length) * 1 ≤ _; omega) ?_
    intro v3_2 w3_2 g3_2 hO3_2 hE3_2 hG3_2 hN3_2
    obtain ⟨f3, g3⟩ := appN hE3_0 hE3_2 (fun b hb => by cases hb; omega) hG3_2
    have hW : Bs (fun _ => True) w3_2 v3_2 xs := by
      unfold Bs
      rw [show xs.length = 0 + xs.length from by omega, show xs.map u8v = [] ++ xs.map u8v from rfl]
      exact hO3_2.sl.mono fun _ _ _ => trivial
    refine r_assign rfl ?_
    refine LW.nil ?_
    refine thenE_norm (h5 _ _ ?_); clear h5; try clear K5
    refine CW.seq (fun K6 h6 => ?_)
    refine CW.region ?_
    refine r_move rfl ?_
    refine r_call rfl Try.call16 rfl (PutNum_o v _) ?_
    rintro _ w4 ⟨v4, g4, rfl, hv4, hg4, hE4⟩
    refine ⟨_, rfl, ?_⟩
    have hl4 := hv4.lt
    obtain ⟨ao4, cap4, hq4, -, -, -⟩ := hv4.sl
    subst hq4
    refine r_move rfl ?_
    refine r_extract rfl rfl rfl ?_
    refine r_extract rfl rfl rfl ?_
    refine r_assign rfl ?_
    refine r_assign rfl ?_
    refine LW.nil ?_
    refine thenE_norm ?_
    refine cut (K := K6) [0, 1, 2, 3, 9, 10] (fun σ => ?_)
    simp only [setL, keepE, upd_get, ev, Nat.reduceEqDiff, ↓reduceIte]
    refine h6 _ _ ?_; clear h6; try clear K6
    refine CW.seq (fun K7 h7 => ?_)
    refine CW.region ?_
    refine r_move rfl ?_
    refine r_call rfl Try.call18 rfl (PutText_o s _) ?_
    rintro _ w5 ⟨v5, g5, rfl, hv5, hg5, hE5⟩
    refine ⟨_, rfl, ?_⟩
    have hl5 := hv5.lt
    obtain ⟨ao5, cap5, hq5, -, -, -⟩ := hv5.sl
    subst hq5
    have e5 := hE4.trans hE5
    refine r_move rfl ?_
    refine r_extract rfl rfl rfl ?_
    refine r_extract rfl rfl rfl ?_
    refine r_assign rfl ?_
    refine r_assign rfl ?_
    refine LW.nil ?_
    refine thenE_norm (h7 _ _ ?_); clear h7; try clear K7
    refine CW.seq (fun K8 h8 => ?_)
    refine CW.region ?_
    refine r_move rfl ?_
    refine r_move rfl ?_
    refine r_call rfl Try.call20 rfl (Text_c at_ 255 _ (hb'.up0 (f3.trans e5))) ?_
    rintro _ w6 ⟨rfl, hE6⟩
    refine ⟨_, rfl, ?_⟩
    refine r_move rfl ?_
    refine r_extract rfl rfl rfl ?_
    refine r_extract rfl rfl rfl ?_
    refine r_extract rfl rfl rfl ?_
    refine r_assign rfl ?_
    refine r_assign rfl ?_
    refine r_assign rfl ?_
    refine LW.nil ?_
    refine thenE_norm ?_
    refine cut (K := K8) [0, 1, 2, 3, 9, 10, 12, 14] (fun σ => ?_)
    simp only [setL, keepE, upd_get, ev, Nat.reduceEqDiff, ↓reduceIte]
    refine h8 _ _ ?_; clear h8; try clear K8
    refine CW.seq (fun K9 h9 => ?_)
    refine CW.seq (fun K10 h10 => ?_)
    refine CW.region ?_
    refine r_assign rfl ?_
    refine LW.nil ?_
    refine thenE_norm (h10 _ _ ?_); clear h10; try clear K10
    refine CW.block ?_
    have e6 := e5.trans hE6
    have hv46 := (hv4.up0 hE5).up0 hE6
    have hv56 := hv5.up0 hE6
    generalize hN : (putNumM v).1.length = N at *
    have hNb : N ≤ 8 := by rw [← hN]; unfold putNumM; split <;> simp [eight_len]
    refine CW.loopR [0, 1, 2, 3, 9, 10, 12, 14] [17] (fun m vs w' => ∃ (i : Int) (ys : List UInt8), vs = [.int .i64 i] ∧ 0 ≤ i ∧ i ≤ N ∧ m = (N - i).toNat ∧ ys.length = N ∧ Own 5 1 w' (.slice ao4 N cap4) N (ys.map u8v) g4 ∧ Ext (fun b => g4 = some b) w6 w') (N) ?_ ?_
    · exact ⟨0, (putNumM v).1, rfl, by omega, by omega, by omega, hN, hv46, Ext.refl _ _⟩
    rintro n1 vs1 wL1 σ ⟨i, ys, rfl, hi0, hi1, rfl, hyl, hO, hE⟩
    simp only [setL, keepE, upd_get, ev, Nat.reduceEqDiff, ↓reduceIte]
    refine CW.seq (fun K11 h11 => ?_)
    refine CW.seq (fun K12 h12 => ?_)
    refine CW.region ?_
    refine r_move rfl ?_
    refine r_move rfl ?_
    refine r_len rfl Try.underlying23 rfl ?_
    refine r_lss rfl rfl rfl ?_
    refine LW.nil ?_
    refine thenE_norm (h12 _ _ ?_); clear h12; try clear K12
    refine CW.cond rfl (fun hc2 => ?_) (fun hc2 => ?_)
    · try simp only [decide_eq_true_eq, decide_eq_false_iff_not, Bool.and_eq_true, Bool.or_eq_true, Bool.and_eq_false_iff, Bool.or_eq_false_iff, Bool.not_eq_true', Bool.not_eq_false', beq_iff_eq, bne_iff_ne] at hc2
      refine CW.skip ?_
      refine thenE_norm (h11 _ _ ?_); clear h11; try clear K11
      refine CW.seq (fun K13 h13 => ?_)
      refine CW.block ?_
      obtain ⟨q, cq, cur, hgq, hvq, hbq, hcl, hce, hset⟩ := hO.cellB i.toNat (by omega)
      have hse := u8_inc (ys.getD i.toNat 0)
      injection hvq with hao4 _ _
      subst hao4
      refine CW.region ?_
      refine r_move rfl ?_
      refine r_move rfl ?_
      refine r_indexAddr rfl Try.underlying23 Try.sizeOf5 rfl rfl hi0 (by omega) ?_
      refine r_load rfl Try.isAgg5 rfl hce ?_
      refine r_addw rfl rfl rfl ?_
      refine r_indexAddr rfl Try.underlying23 Try.sizeOf5 rfl rfl hi0 (by omega) ?_
      refine r_store Try.sizeOf5 rfl (by simp only [upd_get, ev, Nat.reduceEqDiff, ↓reduceIte]; rfl) rfl hbq (by omega) ?_
      intro w10_6 hs10_6 hE10_6 hB10_6
      try simp only [Nat.zero_add, Nat.mul_one] at hB10_6
      refine LW.nil ?_
      refine blockE_norm ?_
      refine thenE_norm (h13 _ _ ?_); clear h13; try clear K13
      refine CW.region ?_
      refine r_move rfl ?_
      refine r_add rfl rfl rfl (wr_i64 (by omega) (by omega)) ?_
      refine r_assign rfl ?_
      refine LW.nil ?_
      refine thenE_norm ⟨rfl, ?_⟩
      rw [hse, ← u8v] at hB10_6
      exact ⟨_, by omega, i + 1, ys.set i.toNat (ys.getD i.toNat 0 + 1), rfl, by omega, by omega, rfl, by simpa using hyl, hset _ _ hB10_6, hE.trans hE10_6 (fun _ _ h => h) (fun x _ h => by rw [hgq, h])⟩
    · try simp only [decide_eq_true_eq, decide_eq_false_iff_not, Bool.and_eq_true, Bool.or_eq_true, Bool.and_eq_false_iff, Bool.or_eq_false_iff, Bool.not_eq_true', Bool.not_eq_false', beq_iff_eq, bne_iff_ne] at hc2
      refine CW.exit (thenE_exit (thenE_exit (blockE_hit ?_)))
      refine thenE_norm (h9 _ _ ?_); clear h9; try clear K9
      refine CW.seq (fun K14 h14 => ?_)
      refine CW.seq (fun K15 h15 => ?_)
      have e8 : Ext0 w3_2 wL1 := e6.transN hE hg4
      have hv58 := hv56.up hE (fun b h5 h4 => by have := hg5 b h5; have := hl4 b h4; omega)
      generalize hM : (putTextM s.data.toList).1.length = M at *
      have hMb : M ≤ 301 := by rw [← hM]; unfold putTextM; split <;> simp; omega
      clear hO
      refine CW.region ?_
      refine r_assign rfl ?_
      refine LW.nil ?_
      refine thenE_norm (h15 _ _ ?_); clear h15; try clear K15
      refine CW.block ?_
      refine CW.loopR [0, 1, 2, 3, 9, 12, 14] [18] (fun m vs w' => ∃ (i : Int) (ys : List UInt8), vs = [.int .i64 i] ∧ 0 ≤ i ∧ i ≤ M ∧ m = (M - i).toNat ∧ ys.length = M ∧ Own 5 1 w' (.slice ao5 M cap5) M (ys.map u8v) g5 ∧ Ext (fun b => g5 = some b) wL1 w') (M) ?_ ?_
      · exact ⟨0, (putTextM s.data.toList).1, rfl, by omega, by omega, by omega, hM, hv58, Ext.refl _ _⟩
      rintro n2 vs2 wL2 σ ⟨i2, zs, rfl, hj0, hj1, rfl, hzl, hO2, hE2⟩
      simp only [setL, keepE, upd_get, ev, Nat.reduceEqDiff, ↓reduceIte]
      refine CW.seq (fun K16 h16 => ?_)
      refine CW.seq (fun K17 h17 => ?_)
      refine CW.region ?_
      refine r_move rfl ?_
      refine r_move rfl ?_
      refine r_len rfl Try.underlying23 rfl ?_
      refine r_lss rfl rfl rfl ?_
      refine LW.nil ?_
      refine thenE_norm (h17 _ _ ?_); clear h17; try clear K17
      refine CW.cond rfl (fun hc3 => ?_) (fun hc3 => ?_)
      · try simp only [decide_eq_true_eq, decide_eq_false_iff_not, Bool.and_eq_true, Bool.or_eq_true, Bool.and_eq_false_iff, Bool.or_eq_false_iff, Bool.not_eq_true', Bool.not_eq_false', beq_iff_eq, bne_iff_ne] at hc3
        refine CW.skip ?_
        refine thenE_norm (h16 _ _ ?_); clear h16; try clear K16
        refine CW.seq (fun K18 h18 => ?_)
        refine CW.block ?_
        obtain ⟨q, cq, cur, hgq, hvq, hbq, hcl, hce, hset⟩ := hO2.cellB i2.toNat (by omega)
        have hse := u8_inc (zs.getD i2.toNat 0)
        injection hvq with hao5 _ _
        subst hao5
        refine CW.region ?_
        refine r_move rfl ?_
        refine r_move rfl ?_
        refine r_indexAddr rfl Try.underlying23 Try.sizeOf5 rfl rfl hj0 (by omega) ?_
        refine r_load rfl Try.isAgg5 rfl hce ?_
        refine r_addw rfl rfl rfl ?_
        refine r_indexAddr rfl Try.underlying23 Try.sizeOf5 rfl rfl hj0 (by omega) ?_
        refine r_store Try.sizeOf5 rfl (by simp only [upd_get, ev, Nat.reduceEqDiff, ↓reduceIte]; rfl) rfl hbq (by omega) ?_
        intro w14_6 hs14_6 hE14_6 hB14_6
        try simp only [Nat.zero_add, Nat.mul_one] at hB14_6
        refine LW.nil ?_
        refine blockE_norm ?_
        refine thenE_norm (h18 _ _ ?_); clear h18; try clear K18
        refine CW.region ?_
        refine r_move rfl ?_
        refine r_add rfl rfl rfl (wr_i64 (by omega) (by omega)) ?_
        refine r_assign rfl ?_
        refine LW.nil ?_
        refine thenE_norm ⟨rfl, ?_⟩
        rw [hse, ← u8v] at hB14_6
        exact ⟨_, by omega, i2 + 1, zs.set i2.toNat (zs.getD i2.toNat 0 + 1), rfl, by omega, by omega, rfl, by simpa using hzl, hset _ _ hB14_6, hE2.trans hE14_6 (fun _ _ h => h) (fun x _ h => by rw [hgq, h])⟩
      · try simp only [decide_eq_true_eq, decide_eq_false_iff_not, Bool.and_eq_true, Bool.or_eq_true, Bool.and_eq_false_iff, Bool.or_eq_false_iff, Bool.not_eq_true', Bool.not_eq_false', beq_iff_eq, bne_iff_ne] at hc3
        refine CW.exit (thenE_exit (thenE_exit (blockE_hit ?_)))
        refine thenE_norm (h14 _ _ ?_); clear h14; try clear K14
        refine CW.seq (fun K19 h19 => ?_)
        have e9 : Ext0 w3_2 wL2 := e8.transN hE2 (fun b h => Nat.le_trans hE4.size (hg5 b h))
        refine CW.region ?_
        refine r_move rfl ?_
        refine r_move rfl ?_
        refine r_call rfl Try.call20 rfl (Text_c at_ 255 _ (hb'.up0 (f3.trans e9))) ?_
        rintro _ w15 ⟨rfl, hE15⟩
        refine ⟨_, rfl, ?_⟩
        have e15 := e9.trans hE15
        refine r_move rfl ?_
        refine r_extract rfl rfl rfl ?_
        refine r_extract rfl rfl rfl ?_
        refine r_extract rfl rfl rfl ?_
        refine r_assign rfl ?_
        refine r_assign rfl ?_
        refine r_assign rfl ?_
        refine LW.nil ?_
        refine thenE_norm ?_
        refine cut (K := K19) [0, 1, 2, 9, 14, 19] (fun σ => ?_)
        simp only [setL, keepE, upd_get, ev, Nat.reduceEqDiff, ↓reduceIte]
        refine h19 _ _ ?_; clear h19; try clear K19
        refine CW.seq (fun K20 h20 => ?_)
        refine CW.region ?_
        refine r_move rfl ?_
        refine r_call rfl Try.call16 rfl (PutNum_c v _) ?_
        rintro _ w16 ⟨v16, rfl, hv16, hE16⟩
        refine ⟨_, rfl, ?_⟩
        have e16 := e15.trans hE16
        refine r_move rfl ?_
        refine r_extract rfl rfl rfl ?_
        refine r_extract rfl rfl rfl ?_
        refine r_assign rfl ?_
        refine r_assign rfl ?_
        refine LW.nil ?_
        refine thenE_norm (h20 _ _ ?_); clear h20; try clear K20
        refine CW.seq (fun K21 h21 => ?_)
        refine CW.region ?_
        refine r_move rfl ?_
        refine r_call rfl Try.call18 rfl (PutText_c s _) ?_
        rintro _ w17 ⟨v17, rfl, hv17, hE17⟩
        refine ⟨_, rfl, ?_⟩
        have e17 := e16.trans hE17
        have hv167 := hv16.up0 hE17
        refine r_move rfl ?_
        refine r_extract rfl rfl rfl ?_
        refine r_extract rfl rfl rfl ?_
        refine r_assign rfl ?_
        refine r_assign rfl ?_
        refine LW.nil ?_
        refine thenE_norm ?_
        refine cut (K := K21) [0, 1, 2, 9, 14, 19, 22, 23, 24, 25] (fun σ => ?_)
        simp only [setL, keepE, upd_get, ev, Nat.reduceEqDiff, ↓reduceIte]
        refine h21 _ _ ?_; clear h21; try clear K21
        refine CW.seqJ [1, 2, 9, 14, 19, 24, 25] [] (fun vs w' => vs = [] ∧ Ext0 w17 w') ?_ ?_
        · refine CW.seq (fun K23 h23 => ?_)
          refine CW.region ?_
          refine r_move rfl ?_
          refine r_eql rfl rfl rfl ?_
          refine LW.nil ?_
          refine thenE_norm (h23 _ _ ?_); clear h23; try clear K23
          refine CW.cond rfl (fun hc4 => ?_) (fun hc4 => ?_)
          · try simp only [decide_eq_true_eq, decide_eq_false_iff_not, Bool.and_eq_true, Bool.or_eq_true, Bool.and_eq_false_iff, Bool.or_eq_false_iff, Bool.not_eq_true', Bool.not_eq_false', beq_iff_eq, bne_iff_ne] at hc4
            refine CW.seq (fun K24 h24 => ?_)
            have hnum : putNumM v = (eight v.toNat, 0) ∧ 0 ≤ v ∧ v < 4611686018427387904 := by
              unfold putNumM at hc4 ⊢
              by_cases h : 0 ≤ v ∧ v < 4611686018427387904
              · rw [if_pos h]; exact ⟨rfl, h⟩
              · rw [if_neg h] at hc4; simp at hc4
            have hrd := numM_app [] [] v hnum.2.1 hnum.2.2
            have hnn := Num_c 0 _ hv167
            rw [hnum.1, show eight v.toNat = [] ++ (eight v.toNat ++ []) from by simp, show (0 : Int) = (([] : List UInt8).length : Int) from rfl, hrd] at hnn
            refine CW.region ?_
            refine r_move rfl ?_
            refine r_call rfl Try.call24 rfl (hnn) ?_
            rintro _ w19 ⟨rfl, hE19⟩
            refine ⟨_, rfl, ?_⟩
            refine r_move rfl ?_
            refine r_extract rfl rfl rfl ?_
            refine r_extract rfl rfl rfl ?_
            refine r_extract rfl rfl rfl ?_
            refine r_assign rfl ?_
            refine r_assign rfl ?_
            refine r_assign rfl ?_
            refine LW.nil ?_
            refine thenE_norm ?_
            refine cut (K := K24) [0, 1, 2, 9, 14, 19, 24, 25, 26, 28] (fun σ => ?_)
            simp only [setL, keepE, upd_get, ev, Nat.reduceEqDiff, ↓reduceIte]
            refine h24 _ _ ?_; clear h24; try clear K24
            refine CW.seq (fun K25 h25 => ?_)
            refine CW.region ?_
            refine r_move rfl ?_
            refine r_neq rfl rfl rfl ?_
            refine r_move rfl ?_
            refine LW.known (t := 112) (c := false) rfl rfl (fun hg20_3 => ?_)
            refine LW.want rfl rfl hg20_3 ?_
            refine r_move rfl ?_
            refine LW.want rfl rfl hg20_3 ?_
            refine r_move rfl ?_
            refine LW.want rfl rfl hg20_3 ?_
            refine r_neq rfl rfl rfl ?_
            refine r_pickF rfl rfl hg20_3 ?_
            refine LW.nil ?_
            refine thenE_norm ?_
            refine cut (K := K25) [1, 2, 9, 14, 19, 24, 25, 116] (fun σ => ?_)
            simp only [setL, keepE, upd_get, ev, Nat.reduceEqDiff, ↓reduceIte]
            refine h25 _ _ ?_; clear h25; try clear K25
            refine CW.condF rfl (by simp) ?_
            refine CW.skip ?_
            refine thenE_norm ?_
            exact ⟨rfl, rfl, by first | exact Ext.refl _ _ | assumption⟩
          · try simp only [decide_eq_true_eq, decide_eq_false_iff_not, Bool.and_eq_true, Bool.or_eq_true, Bool.and_eq_false_iff, Bool.or_eq_false_iff, Bool.not_eq_true', Bool.not_eq_false', beq_iff_eq, bne_iff_ne] at hc4
            refine CW.skip ?_
            refine thenE_norm ?_
            exact ⟨rfl, rfl, by first | exact Ext.refl _ _ | assumption⟩
        rintro vs wJ σ ⟨rfl, hEJ⟩
        simp only [setL, keepE, upd_get, ev, Nat.reduceEqDiff, ↓reduceIte]
        have e22 := e17.trans hEJ
        have hv172 := hv17.up0 hEJ
        refine CW.seqJ [2, 9, 14, 19] [] (fun vs w' => vs = [] ∧ Ext0 wJ w') ?_ ?_
        · refine CW.seq (fun K27 h27 => ?_)
          refine CW.region ?_
          refine r_move rfl ?_
          refine r_eql rfl rfl rfl ?_
          refine LW.nil ?_
          refine thenE_norm (h27 _ _ ?_); clear h27; try clear K27
          refine CW.cond rfl (fun hc6 => ?_) (fun hc6 => ?_)
          · try simp only [decide_eq_true_eq, decide_eq_false_iff_not, Bool.and_eq_true, Bool.or_eq_true, Bool.and_eq_false_iff, Bool.or_eq_false_iff, Bool.not_eq_true', Bool.not_eq_false', beq_iff_eq, bne_iff_ne] at hc6
            refine CW.seq (fun K28 h28 => ?_)
            have htx : putTextM s.data.toList = (UInt8.ofNat s.data.toList.length :: s.data.toList, 0) ∧ s.data.toList.length < 256 := by
              unfold putTextM at hc6 ⊢
              by_cases h : s.data.toList.length < 256
              · rw [if_pos h]; exact ⟨rfl, h⟩
              · rw [if_neg h] at hc6; simp at hc6
            have hrt := textM_app [] [] s.data.toList 255 htx.2 (by omega)
            have hnt := Text_c 0 255 _ hv172
            rw [htx.1, show UInt8.ofNat s.data.toList.length :: s.data.toList = [] ++ (UInt8.ofNat s.data.toList.length :: s.data.toList ++ []) from by simp, show (0 : Int) = (([] : List UInt8).length : Int) from rfl, hrt] at hnt
            refine CW.region ?_
            refine r_move rfl ?_
            refine r_call rfl Try.call20 rfl (hnt) ?_
            rintro _ w23 ⟨rfl, hE23⟩
            refine ⟨_, rfl, ?_⟩
            refine r_move rfl ?_
            refine r_extract rfl rfl rfl ?_
            refine r_extract rfl rfl rfl ?_
            refine r_extract rfl rfl rfl ?_
            refine r_assign rfl ?_
            refine r_assign rfl ?_
            refine r_assign rfl ?_
            refine LW.nil ?_
            refine thenE_norm ?_
            refine cut (K := K28) [1, 2, 9, 14, 19, 29, 31] (fun σ => ?_)
            simp only [setL, keepE, upd_get, ev, Nat.reduceEqDiff, ↓reduceIte]
            refine h28 _ _ ?_; clear h28; try clear K28
            refine CW.seq (fun K29 h29 => ?_)
            refine CW.region ?_
            refine r_move rfl ?_
            refine r_neq rfl rfl rfl ?_
            refine r_move rfl ?_
            refine LW.known (t := 127) (c := false) rfl rfl (fun hg24_3 => ?_)
            refine LW.want rfl rfl hg24_3 ?_
            refine r_move rfl ?_
            refine LW.want rfl rfl hg24_3 ?_
            refine r_move rfl ?_
            refine LW.want rfl rfl hg24_3 ?_
            refine r_neqS rfl rfl rfl ?_
            refine r_pickF rfl rfl hg24_3 ?_
            refine LW.nil ?_
            refine thenE_norm ?_
            refine cut (K := K29) [2, 9, 14, 19, 131] (fun σ => ?_)
            simp only [setL, keepE, upd_get, ev, Nat.reduceEqDiff, ↓reduceIte]
            refine h29 _ _ ?_; clear h29; try clear K29
            refine CW.condF rfl (by simp) ?_
            refine CW.skip ?_
            refine thenE_norm ?_
            exact ⟨rfl, rfl, by first | exact Ext.refl _ _ | assumption⟩
          · try simp only [decide_eq_true_eq, decide_eq_false_iff_not, Bool.and_eq_true, Bool.or_eq_true, Bool.and_eq_false_iff, Bool.or_eq_false_iff, Bool.not_eq_true', Bool.not_eq_false', beq_iff_eq, bne_iff_ne] at hc6
            refine CW.skip ?_
            refine thenE_norm ?_
            exact ⟨rfl, rfl, by first | exact Ext.refl _ _ | assumption⟩
        rintro vs wK σ ⟨rfl, hEK⟩
        simp only [setL, keepE, upd_get, ev, Nat.reduceEqDiff, ↓reduceIte]
        refine CW.seq (fun K30 h30 => ?_)
        have e26 := e22.trans hEK
        refine CW.region ?_
        refine r_move rfl ?_
        refine r_move rfl ?_
        refine r_eqlS rfl rfl rfl ?_
        refine r_move rfl ?_
        refine LW.known (t := 135) (c := true) rfl (by simp) (fun hg26_4 => ?_)
        refine LW.want rfl rfl hg26_4 ?_
        refine r_move rfl ?_
        refine LW.want rfl rfl hg26_4 ?_
        refine r_move rfl ?_
        refine LW.want rfl rfl hg26_4 ?_
        refine r_call rfl Try.call17 rfl (Same_c _ (hb'.up0 (f3.trans e26)) (hW.up0 e26)) ?_
        rintro _ w26 ⟨rfl, rfl⟩
        refine ⟨_, rfl, ?_⟩
        refine r_pickT rfl rfl hg26_4 ?_
        refine r_move rfl ?_
        refine LW.known (t := 140) (c := true) rfl (by simp) (fun hg26_9 => ?_)
        refine LW.want rfl rfl hg26_9 ?_
        refine r_call rfl Try.call15 rfl (awake_c _) ?_
        rintro _ wa ⟨rfl, hEa⟩
        refine ⟨_, rfl, ?_⟩
        refine r_pickT rfl rfl hg26_9 ?_
        refine r_assign rfl ?_
        refine LW.nil ?_
        refine thenE_norm ?_
        refine cut (K := K30) [8] (fun σ => ?_)
        simp only [setL, keepE, upd_get, ev, Nat.reduceEqDiff, ↓reduceIte]
        refine h30 _ _ ?_; clear h30; try clear K30
        refine CW.ret (ret1 Try.results6 (by simp only [upd_get, ev, Nat.reduceEqDiff, ↓reduceIte]; rfl) ?_)
        exact ⟨rfl, (f3.trans e26).trans hEa⟩
end Go.Proofs.Ytgcmafgcigipdaa
