/-
  The walks of layer 4's functions, and of the document's, the second part: bytes joined; a command's bytes.
-/
import Derived.Test.YtgcmafgcigipdaaVCmdA
import Derived.Test.YtgcmafgcigipdaaVGrow
namespace Go.Proofs.Ytgcmafgcigipdaa
set_option linter.unusedSimpArgs false
set_option linter.unusedVariables false
set_option maxRecDepth 20000
open Go.V Go.RowKit

theorem Grow_c (n : Nat) (w : World) (hn : n ≤ 1000000) :
    Calls Try.prog 58 #[.slice none 0 0, .int .i64 n] w fun e w' => ∃ v g, e = .returned v ∧ Own 5 1 w' v 0 [] g ∧ (∀ b, g = some b → w.heap.size ≤ b) ∧ Ext0 w w' := by
  refine calls_of_CW Try.func58 rfl Try.ntmps58 (Nat.le_of_ble_eq_true rfl) ?_
  simp only [argE, argFrom, Nat.reduceAdd]
  refine CW.seq (fun K1 h1 => ?_)
  refine CW.region ?_
  refine r_assign rfl ?_
  refine LW.nil ?_
  refine thenE_norm (h1 _ _ ?_); clear h1; try clear K1
  refine CW.seq (fun K2 h2 => ?_)
  refine CW.seq (fun K3 h3 => ?_)
  refine CW.region ?_
  refine r_move rfl ?_
  refine r_lss rfl rfl rfl ?_
  refine LW.nil ?_
  refine thenE_norm (h3 _ _ ?_); clear h3; try clear K3
  refine CW.condF rfl (by simp) ?_
  refine CW.skip ?_
  refine thenE_norm (h2 _ _ ?_); clear h2; try clear K2
  refine CW.seq (fun K4 h4 => ?_)
  refine CW.seq (fun K5 h5 => ?_)
  refine CW.region ?_
  refine r_move rfl ?_
  refine r_move rfl ?_
  refine r_cap rfl Try.underlying23 rfl ?_
  refine r_move rfl ?_
  refine r_len rfl Try.underlying23 rfl ?_
  refine r_sub rfl rfl rfl (wr_i64 (by omega) (by omega)) ?_
  refine r_sub rfl rfl rfl (wr_i64 (by omega) (by omega)) ?_
  refine r_assign rfl ?_
  refine LW.nil ?_
  refine thenE_norm ?_
  refine cut (K := K5) [0, 1] (fun σ => ?_)
  simp only [setL, keepE, upd_get, ev, Nat.reduceEqDiff, ↓reduceIte]
  refine h5 _ _ ?_; clear h5; try clear K5
  refine CW.seq (fun K6 h6 => ?_)
  refine CW.region ?_
  refine r_move rfl ?_
  refine r_gtr rfl rfl rfl ?_
  refine LW.nil ?_
  refine thenE_norm (h6 _ _ ?_); clear h6; try clear K6
  refine CW.cond rfl (fun hc2 => ?_) (fun hc2 => ?_)
  · try simp only [decide_eq_true_eq, decide_eq_false_iff_not, Bool.and_eq_true, Bool.or_eq_true, Bool.and_eq_false_iff, Bool.or_eq_false_iff, Bool.not_eq_true', Bool.not_eq_false', beq_iff_eq, bne_iff_ne] at hc2
    refine CW.region ?_
    refine r_move rfl ?_
    refine r_move rfl ?_
    refine r_cap rfl Try.underlying23 rfl ?_
    refine r_sliceHc rfl Try.underlying23 Try.sizeOf5 rfl rfl (by decide) (by decide) ?_
    refine r_move rfl ?_
    refine r_growNil rfl Try.underlying23 Try.underlying3 Try.type5 rfl rfl rfl rfl rfl (n := n) (by omega) (by omega) (by show n * 1 ≤ _; omega) (by omega) ?_
    intro b5_5 w5_5 cap5_5 cur5_5 hb5_5 hc5_5 hm5_5 hB5_5 hs5_5 hE5_5
    refine r_move rfl ?_
    refine r_len rfl Try.underlying23 rfl ?_
    refine r_sliceHc rfl Try.underlying23 Try.sizeOf5 rfl rfl (by decide) (by omega) ?_
    refine r_assign rfl ?_
    refine LW.nil ?_
    refine thenE_norm ?_
    refine cut (K := K4) [0] (fun σ => ?_)
    simp only [setL, keepE, upd_get, ev, Nat.reduceEqDiff, ↓reduceIte]
    refine h4 _ _ ?_; clear h4; try clear K4
    refine CW.seq (fun K7 h7 => ?_)
    refine CW.region ?_
    refine r_move rfl ?_
    refine r_assign rfl ?_
    refine LW.nil ?_
    refine thenE_norm (h7 _ _ ?_); clear h7; try clear K7
    refine CW.ret (ret1 Try.results58 (by simp only [upd_get, ev, Nat.reduceEqDiff, ↓reduceIte]; rfl) ?_)
    first
      | exact ⟨_, some b5_5, rfl, ⟨by simp, .inr ⟨b5_5, cap5_5, cur5_5, rfl, rfl, hB5_5, by omega, hm5_5, hs5_5, by simp⟩⟩, (fun b hb => by cases hb; omega), hE5_5⟩
      | exact ⟨_, none, rfl, Own.nil _ _ _, (fun b hb => by cases hb), Ext.refl _ _⟩
  · try simp only [decide_eq_true_eq, decide_eq_false_iff_not, Bool.and_eq_true, Bool.or_eq_true, Bool.and_eq_false_iff, Bool.or_eq_false_iff, Bool.not_eq_true', Bool.not_eq_false', beq_iff_eq, bne_iff_ne] at hc2
    refine CW.skip ?_
    refine thenE_norm (h4 _ _ ?_); clear h4; try clear K4
    refine CW.seq (fun K8 h8 => ?_)
    refine CW.region ?_
    refine r_move rfl ?_
    refine r_assign rfl ?_
    refine LW.nil ?_
    refine thenE_norm (h8 _ _ ?_); clear h8; try clear K8
    refine CW.ret (ret1 Try.results58 (by simp only [upd_get, ev, Nat.reduceEqDiff, ↓reduceIte]; rfl) ?_)
    first
      | exact ⟨_, some b5_5, rfl, ⟨by simp, .inr ⟨b5_5, cap5_5, cur5_5, rfl, rfl, hB5_5, by omega, hm5_5, hs5_5, by simp⟩⟩, (fun b hb => by cases hb; omega), hE5_5⟩
      | exact ⟨_, none, rfl, Own.nil _ _ _, (fun b hb => by cases hb), Ext.refl _ _⟩

theorem Concat_c {F G : Nat → Prop} {v : Value} {vs : List Value} {xss : List (List UInt8)} (w : World) (hv : Sl F w v vs.length vs) (hl : xss.length = vs.length) (hx : ∀ i, i < vs.length → Bs G w (vs.getD i undef) (xss.getD i [])) (hsum : xss.flatten.length ≤ 1000000) (hn : vs.length ≤ 1000) :
    Calls Try.prog 54 #[v] w fun e w' => ∃ v' g, e = .returned v' ∧ Own 5 1 w' v' xss.flatten.length (xss.flatten.map u8v) g ∧ (∀ b, g = some b → w.heap.size ≤ b) ∧ Ext0 w w' := by
  obtain ⟨ao, cap, rfl, hle, hm, hcell⟩ := hv
  refine calls_of_CW Try.func54 rfl Try.ntmps54 (Nat.le_of_ble_eq_true rfl) ?_
  simp only [argE, argFrom, Nat.reduceAdd]
  refine CW.seq (fun K1 h1 => ?_)
  refine CW.region ?_
  refine r_assign rfl ?_
  refine LW.nil ?_
  refine thenE_norm (h1 _ _ ?_); clear h1; try clear K1
  refine CW.seq (fun K2 h2 => ?_)
  refine CW.region ?_
  refine r_assign rfl ?_
  refine LW.nil ?_
  refine thenE_norm (h2 _ _ ?_); clear h2; try clear K2
  refine CW.seq (fun K3 h3 => ?_)
  refine CW.seq (fun K4 h4 => ?_)
  refine CW.region ?_
  refine r_move rfl ?_
  refine r_len rfl Try.underlying77 rfl ?_
  refine r_move rfl ?_
  refine LW.nil ?_
  refine thenE_norm (h4 _ _ ?_); clear h4; try clear K4
  refine CW.block ?_
  refine CW.loopR [0, 9, 10] [3, 11] (fun m us w' => ∃ i : Int, us = [.int .i64 ((xss.take i.toNat).flatten.length), .int .i64 i] ∧ 0 ≤ i ∧ i ≤ vs.length ∧ m = (vs.length - i).toNat ∧ w = w') (vs.length) ?_ ?_
  · exact ⟨0, rfl, by omega, by omega, by omega, rfl⟩
  rintro n1 vs1 wL1 σ ⟨i, rfl, hi0, hi1, rfl, rfl⟩
  simp only [setL, keepE, upd_get, ev, Nat.reduceEqDiff, ↓reduceIte]
  refine CW.seq (fun K5 h5 => ?_)
  refine CW.region ?_
  refine r_lss rfl rfl rfl ?_
  refine LW.nil ?_
  refine thenE_norm (h5 _ _ ?_); clear h5; try clear K5
  refine CW.seq (fun K6 h6 => ?_)
  refine CW.cond rfl (fun hc1 => ?_) (fun hc1 => ?_)
  · try simp only [decide_eq_true_eq, decide_eq_false_iff_not, Bool.and_eq_true, Bool.or_eq_true, Bool.and_eq_false_iff, Bool.or_eq_false_iff, Bool.not_eq_true', Bool.not_eq_false', beq_iff_eq, bne_iff_ne] at hc1
    refine CW.skip ?_
    refine thenE_norm (h6 _ _ ?_); clear h6; try clear K6
    refine CW.seq (fun K7 h7 => ?_)
    refine CW.block ?_
    refine CW.seq (fun K8 h8 => ?_)
    have hi2 : i.toNat < vs.length := by omega
    obtain ⟨b, o, rfl, -, hcl⟩ := hcell.resolve_left (by rintro rfl; simp at hi2)
    have hce := hcl.get i.toNat (vs.getD i.toNat undef) (by rw [List.getD_eq_getElem?_getD, List.getElem?_eq_getElem hi2]; rfl)
    obtain ⟨aoi, capi, hvi, -, -, -⟩ := (hx i.toNat hi2).cell
    rw [hvi] at hce
    have hfl := flat_succ xss i.toNat (by omega)
    refine CW.region ?_
    refine r_indexAddr rfl Try.underlying77 Try.sizeOf23 rfl rfl hi0 (by omega) ?_
    refine r_load rfl Try.isAgg23 rfl (by rw [Nat.mul_one]; exact hce) ?_
    refine r_assign rfl ?_
    refine LW.nil ?_
    refine thenE_norm (h8 _ _ ?_); clear h8; try clear K8
    refine CW.seq (fun K9 h9 => ?_)
    refine CW.region ?_
    refine r_move rfl ?_
    refine r_move rfl ?_
    refine r_len rfl Try.underlying23 rfl ?_
    refine r_add rfl rfl rfl (wr_i64 (by omega) (by omega)) ?_
    refine r_assign rfl ?_
    refine LW.nil ?_
    refine thenE_norm ?_
    refine cut (K := K9) [0, 3, 9, 10, 11] (fun σ => ?_)
    simp only [setL, keepE, upd_get, ev, Nat.reduceEqDiff, ↓reduceIte]
    refine h9 _ _ ?_; clear h9; try clear K9
    refine CW.seq (fun K10 h10 => ?_)
    refine CW.region ?_
    refine r_move rfl ?_
    refine r_lss rfl rfl rfl ?_
    refine LW.nil ?_
    refine thenE_norm (h10 _ _ ?_); clear h10; try clear K10
    refine CW.condF rfl (by simp; omega) ?_
    refine CW.skip ?_
    refine blockE_norm ?_
    refine thenE_norm (h7 _ _ ?_); clear h7; try clear K7
    refine CW.region ?_
    refine r_add rfl rfl rfl (wr_i64 (by omega) (by omega)) ?_
    refine r_move rfl ?_
    refine LW.nil ?_
    refine thenE_norm ⟨rfl, ?_⟩
    exact ⟨_, by omega, i + 1, by rw [show (i + 1).toNat = i.toNat + 1 from by omega, hfl.1, List.length_append, Int.natCast_add]; rfl, by omega, by omega, rfl, rfl⟩
  · try simp only [decide_eq_true_eq, decide_eq_false_iff_not, Bool.and_eq_true, Bool.or_eq_true, Bool.and_eq_false_iff, Bool.or_eq_false_iff, Bool.not_eq_true', Bool.not_eq_false', beq_iff_eq, bne_iff_ne] at hc1
    refine CW.exit (thenE_exit (thenE_exit (blockE_hit ?_)))
    refine thenE_norm (h3 _ _ ?_); clear h3; try clear K3
    refine CW.seq (fun K11 h11 => ?_)
    have hi3 : i = vs.length := by omega
    subst hi3
    rw [Int.toNat_natCast, ← hl, List.take_length]
    refine CW.region ?_
    refine r_move rfl ?_
    refine r_call rfl Try.call58 rfl (Grow_c _ _ hsum) ?_
    rintro _ w1 ⟨v1, g1, rfl, hO1, hg1, hE1⟩
    refine ⟨_, rfl, ?_⟩
    refine r_assign rfl ?_
    refine LW.nil ?_
    refine thenE_norm (h11 _ _ ?_); clear h11; try clear K11
    refine CW.seq (fun K12 h12 => ?_)
    refine CW.seq (fun K13 h13 => ?_)
    refine CW.region ?_
    refine r_move rfl ?_
    refine r_len rfl Try.underlying77 rfl ?_
    refine r_move rfl ?_
    refine LW.nil ?_
    refine thenE_norm (h13 _ _ ?_); clear h13; try clear K13
    refine CW.block ?_
    refine CW.loopR [25, 26] [6, 27] (fun m us w' => ∃ (i : Int) (v' : Value) (g : Option Nat), us = [v', .int .i64 i] ∧ 0 ≤ i ∧ i ≤ vs.length ∧ m = (vs.length - i).toNat ∧ Own 5 1 w' v' (xss.take i.toNat).flatten.length ((xss.take i.toNat).flatten.map u8v) g ∧ (∀ b, g = some b → w.heap.size ≤ b) ∧ Ext0 w w') (vs.length) ?_ ?_
    · exact ⟨0, v1, g1, rfl, by omega, by omega, by omega, hO1, hg1, hE1⟩
    rintro n2 vs2 wL2 σ ⟨i, v2, g2, rfl, hj0, hj1, rfl, hO2, hg2, hE2⟩
    simp only [setL, keepE, upd_get, ev, Nat.reduceEqDiff, ↓reduceIte]
    refine CW.seq (fun K14 h14 => ?_)
    refine CW.region ?_
    refine r_lss rfl rfl rfl ?_
    refine LW.nil ?_
    refine thenE_norm (h14 _ _ ?_); clear h14; try clear K14
    refine CW.seq (fun K15 h15 => ?_)
    refine CW.cond rfl (fun hc3 => ?_) (fun hc3 => ?_)
    · try simp only [decide_eq_true_eq, decide_eq_false_iff_not, Bool.and_eq_true, Bool.or_eq_true, Bool.and_eq_false_iff, Bool.or_eq_false_iff, Bool.not_eq_true', Bool.not_eq_false', beq_iff_eq, bne_iff_ne] at hc3
      refine CW.skip ?_
      refine thenE_norm (h15 _ _ ?_); clear h15; try clear K15
      refine CW.seq (fun K16 h16 => ?_)
      refine CW.block ?_
      refine CW.seq (fun K17 h17 => ?_)
      have hi2 : i.toNat < vs.length := by omega
      obtain ⟨b, o, rfl, -, hcl⟩ := hcell.resolve_left (by rintro rfl; simp at hi2)
      have hce := (hcl.get i.toNat (vs.getD i.toNat undef) (by rw [List.getD_eq_getElem?_getD, List.getElem?_eq_getElem hi2]; rfl))
      have hxi := hx i.toNat hi2
      have hfl := flat_succ xss i.toNat (by omega)
      refine CW.region ?_
      refine r_indexAddr rfl Try.underlying77 Try.sizeOf23 rfl rfl hj0 (by omega) ?_
      refine r_load rfl Try.isAgg23 rfl (by rw [Nat.mul_one]; exact hE2.cell0 hce) ?_
      refine r_assign rfl ?_
      refine LW.nil ?_
      refine thenE_norm (h17 _ _ ?_); clear h17; try clear K17
      refine CW.region ?_
      refine r_move rfl ?_
      refine r_move rfl ?_
      refine r_append rfl Try.underlying23 (.inl ⟨_, Try.underlying23⟩) Try.type5 rfl rfl rfl rfl rfl rfl hO2 (Bs.src (hxi.up0 hE2)) (by simp only [maxLen]; omega) (by show ((xss.take i.toNat).flatten.length + _) * 1 ≤ _; omega) ?_
      intro v13_2 w13_2 g13_2 hO13_2 hE13_2 hG13_2 hN13_2
      obtain ⟨f3, g3⟩ := appN hE2 hE13_2 hg2 hG13_2
      refine r_assign rfl ?_
      refine LW.nil ?_
      refine blockE_norm ?_
      refine thenE_norm (h16 _ _ ?_); clear h16; try clear K16
      refine CW.region ?_
      refine r_add rfl rfl rfl (wr_i64 (by omega) (by omega)) ?_
      refine r_move rfl ?_
      refine LW.nil ?_
      refine thenE_norm ⟨rfl, ?_⟩
      exact ⟨_, by omega, i + 1, v13_2, g13_2, rfl, by omega, by omega, rfl, by rw [show (i + 1).toNat = i.toNat + 1 from by omega, hfl.1, List.length_append, List.map_append]; exact hO13_2, g3, f3⟩
    · try simp only [decide_eq_true_eq, decide_eq_false_iff_not, Bool.and_eq_true, Bool.or_eq_true, Bool.and_eq_false_iff, Bool.or_eq_false_iff, Bool.not_eq_true', Bool.not_eq_false', beq_iff_eq, bne_iff_ne] at hc3
      refine CW.exit (thenE_exit (thenE_exit (blockE_hit ?_)))
      refine thenE_norm (h12 _ _ ?_); clear h12; try clear K12
      refine CW.seq (fun K18 h18 => ?_)
      refine CW.region ?_
      refine r_move rfl ?_
      refine r_assign rfl ?_
      refine LW.nil ?_
      refine thenE_norm (h18 _ _ ?_); clear h18; try clear K18
      refine CW.ret (ret1 Try.results54 (by simp only [upd_get, ev, Nat.reduceEqDiff, ↓reduceIte]; rfl) ?_)
      have hi3 : i = vs.length := by omega
      subst hi3
      rw [Int.toNat_natCast, ← hl, List.take_length] at hO2
      exact ⟨_, _, rfl, hO2, hg2, hE2⟩
end Go.Proofs.Ytgcmafgcigipdaa
