/-
  The walks of layer 15's laws, the second part: LearnBallots.
-/
import Derived.Test.YtalieccfdmokmaaVLeE
namespace Go.Proofs.Ytalieccfdmokmaa
set_option linter.unusedSimpArgs false
set_option linter.unusedVariables false
set_option maxRecDepth 20000
open Go.V Go.RowKit Go.ChangeShapes Go.WideShapes

/-- What was heard of slot 3 by five: votes of one ballot, or none. -/
def LbS (s : LnS) (b : Int) (k : Nat) : Prop := s.n = 5 ∧ s.done = 0 ∧ ((k = 0 ∧ lookM s.heard 3 = none) ∨ ∃ t, lookM s.heard 3 = some t ∧ t.ballot = b ∧ 1 ≤ t.frm.length ∧ t.frm.length ≤ k)
theorem lb_no {s : LnS} {b : Int} {k : Nat} (h : LbS s b k) (hk : k ≤ 2) : chosenT 5 (lookM s.heard 3) = false := by
  rcases h.2.2 with ⟨-, h⟩ | ⟨t, h, -, -, h4⟩
  · rw [h]; rfl
  · rw [h]; exact decide_eq_false (by omega)
theorem lb_ask {s : LnS} {b c v : Int} {k : Nat} {X : Bat} {rs : List Rq} (h : LbS s b k) (hc : 0 ≤ c ∧ c ≤ 1000) (hv : 0 ≤ v ∧ v < 5) (hm : mayBat X.fill X.view X.tip X.time rs = true) : askL s v c 3 X rs :=
  ⟨⟨hv.1, by rw [h.1]; exact hv.2⟩, highM_t.2 ⟨hc.1, by omega⟩, ⟨by decide, by decide⟩, hm⟩
theorem lb_go {s : LnS} {b : Int} {k : Nat} (h : LbS s b k) (hk : k ≤ 2) : ¬ (3 ≤ s.done ∨ chosenT s.n (lookM s.heard 3) = true) := by
  rintro (q | q)
  · rw [h.2.1] at q; omega
  · rw [h.1, lb_no h hk] at q; cases q
theorem lb_hear {s : LnS} {b c v : Int} {k : Nat} {X : Bat} {rs : List Rq} (h : LbS s b k) (hk : k ≤ 2) (hbc : b ≤ c) (hc : 0 ≤ c ∧ c ≤ 1000) (hv : 0 ≤ v ∧ v < 5) (hm : mayBat X.fill X.view X.tip X.time rs = true) :
    (hearM s v c 3 X rs).2 = 0 ∧ LbS (hearM s v c 3 X rs).1 c (k + 1) ∧ (b < c → LbS (hearM s v c 3 X rs).1 c 1) := by
  have ha := lb_ask (X := X) (rs := rs) h hc hv hm
  have hold : ¬ oldT (lookM s.heard 3) c = true := by
    rcases h.2.2 with ⟨-, q⟩ | ⟨t, q, q2, -⟩
    · rw [q]; exact Bool.false_ne_true
    · rw [q, oldT, decide_eq_false (by omega)]; exact Bool.false_ne_true
  rw [hear_put ha (lb_go h hk) (by rw [h.2.1]; decide) hold]
  refine ⟨rfl, ?_⟩
  have hone : ∀ j, LbS ⟨s.n, s.done, setM s.heard 3 (insF (tyNew c X rs) v)⟩ c (j + 1) := fun j => ⟨h.1, h.2.1, .inr ⟨_, by show lookM (setM s.heard 3 _) 3 = _; rw [look_put, if_pos rfl], rfl, by show 1 ≤ [v].length; simp, by show [v].length ≤ j + 1; simp⟩⟩
  rcases h.2.2 with ⟨-, q⟩ | ⟨t, q, q2, q3, q4⟩
  · rw [q]
    exact ⟨hone k, fun _ => hone 0⟩
  · rw [q]
    by_cases hlt : t.ballot < c
    · rw [baseT, if_pos hlt]
      exact ⟨hone k, fun _ => hone 0⟩
    · rw [baseT, if_neg hlt]
      refine ⟨⟨h.1, h.2.1, .inr ⟨_, by show lookM (setM s.heard 3 _) 3 = _; rw [look_put, if_pos rfl], by show t.ballot = c; omega, ?_, ?_⟩⟩, fun q => by omega⟩
      · have := List.length_pos_iff.2 (putK_ne (k := idK) (l := t.frm) (m := v))
        exact this
      · have := putK_len (k := idK) (l := t.frm) (m := v)
        show (putK idK t.frm v).length ≤ k + 1
        omega
theorem lb_old {s : LnS} {b c v : Int} {k : Nat} {X : Bat} {rs : List Rq} (h : LbS s b k) (hk : k ≤ 2) (h0 : 0 < k) (hbc : c < b) (hc : 0 ≤ c ∧ c ≤ 1000) (hv : 0 ≤ v ∧ v < 5) (hm : mayBat X.fill X.view X.tip X.time rs = true) : hearM s v c 3 X rs = (s, 11) := by
  refine hear_old (lb_ask h hc hv hm) (lb_go h hk) (by rw [h.2.1]; decide) ?_
  rcases h.2.2 with ⟨q, -⟩ | ⟨t, q, q2, -⟩
  · omega
  · rw [q]; exact decide_eq_true (by omega)
theorem lb_told {s : LnS} {b : Int} {k : Nat} (h : LbS s b k) (h0 : 0 < k) : ((lookM s.heard 3).getD zeroTm).ballot = b ∧ 1 ≤ ((lookM s.heard 3).getD zeroTm).frm.length ∧ ((lookM s.heard 3).getD zeroTm).frm.length ≤ k := by
  rcases h.2.2 with ⟨q, -⟩ | ⟨t, q, q2, q3, q4⟩
  · omega
  · rw [q]; exact ⟨q2, q3, q4⟩
set_option maxHeartbeats 16000000 in
theorem LearnBallots_c {F F2 : Nat → Prop} {v2 v3 : Value} {ls gs : List UInt8} (a b m : Int) (w : World) (hl : Rs F w v2 ls) (hg : Rs F2 w v3 gs) (a0 : 0 ≤ a) (a1 : a < 256) (b0 : 0 ≤ b) (b1 : b < 256) (m0 : 0 ≤ m) (m1 : m < 256) :
    Calls Try.prog 5 #[.int .u8 a, .int .u8 b, v2, v3, .int .u8 m] w fun e w' => e = .returned (.bool true) ∧ Ext0 w w' := by
  have H := ((SH.start w).arg hl).arg hg
  have h63 := hl.len63
  have h64 := hg.len63
  refine calls_of_CW Try.func5 rfl Try.ntmps5 (Nat.le_of_ble_eq_true rfl) ?_
  simp only [argE, argFrom, Nat.reduceAdd]
  refine CW.seq (fun K1 h1 => ?_)
  refine CW.region ?_
  refine r_assign rfl ?_
  refine LW.nil ?_
  refine thenE_norm (h1 _ _ ?_); clear h1; try clear K1
  refine CW.seq (fun K2 h2 => ?_)
  refine CW.region ?_
  refine r_call rfl Try.call21 (by simp only [List.map_cons, List.map_nil, List.map_toArray, List.toList_toArray, upd_get, ev, Nat.reduceEqDiff, ↓reduceIte] <;> rfl) (LrnNew_c 5 _ (by decide)) ?_
  rintro _ w1_0 ⟨p, FN, rfl, K⟩
  refine ⟨_, rfl, ?_⟩
  replace H := SH.call H K
  clear K
  try dsimp only [replC, List.cons_append, List.nil_append, List.append_nil] at H
  refine r_assign rfl ?_
  refine LW.nil ?_
  refine thenE_norm (h2 _ _ ?_); clear h2; try clear K2
  refine CW.seq (fun K3 h3 => ?_)
  refine CW.seq (fun K4 h4 => ?_)
  refine CW.region ?_
  refine r_move rfl ?_
  refine r_eqlP rfl Try.underlying42 rfl rfl ?_
  refine r_move rfl ?_
  refine LW.known (t := 24) (c := false) rfl (by first | rfl | (simp only [decide_eq_true_eq, decide_eq_false_iff_not, Bool.and_eq_true, Bool.or_eq_true, Bool.and_eq_false_iff, Bool.or_eq_false_iff, Bool.not_eq_true', Bool.not_eq_false', beq_iff_eq, bne_iff_ne]; omega) | simp_all) (fun hg2_3 => ?_)
  refine LW.want rfl rfl hg2_3 ?_
  refine r_move rfl ?_
  refine LW.want rfl rfl hg2_3 ?_
  first
    | refine r_lenV rfl Try.underlying22 (by simp only [upd_get, ev, Nat.reduceEqDiff, ↓reduceIte] <;> rfl) (by first | assumption | exact SH.rsR H (by (repeat first | exact At.here | apply At.there); done) | exact SH.rsO H (by (repeat first | exact At.here | apply At.there); done) | exact (Rs.nil : Rs Non _ _ _)) ?_
    | refine r_len rfl Try.underlying22 rfl ?_
  refine LW.want rfl rfl hg2_3 ?_
  refine r_gtr rfl rfl rfl ?_
  refine r_pickF rfl rfl hg2_3 ?_
  refine r_move rfl ?_
  refine' LW.grpOr (n := 4) (ts := [0, 1, 2, 3, 4, 11]) (d := 33) (tj := 29) rfl (fun hg2_8 => ?_) (fun hg2_8 => ?_) (fun σ => ?_)
  rotate_left
  · simp only [List.take_succ_cons, List.take_zero]
    have hg2_8P := hg2_8
    try simp only [decide_eq_true_eq, decide_eq_false_iff_not, Bool.and_eq_true, Bool.or_eq_true, Bool.and_eq_false_iff, Bool.or_eq_false_iff, Bool.not_eq_true', Bool.not_eq_false', beq_iff_eq, bne_iff_ne] at hg2_8P
    refine LW.want rfl rfl hg2_8 ?_
    refine r_move rfl ?_
    refine LW.want rfl rfl hg2_8 ?_
    first
      | refine r_lenV rfl Try.underlying22 (by simp only [upd_get, ev, Nat.reduceEqDiff, ↓reduceIte] <;> rfl) (by first | assumption | exact SH.rsR H (by (repeat first | exact At.here | apply At.there); done) | exact SH.rsO H (by (repeat first | exact At.here | apply At.there); done) | exact (Rs.nil : Rs Non _ _ _)) ?_
      | refine r_len rfl Try.underlying22 rfl ?_
    refine LW.want rfl rfl hg2_8 ?_
    refine r_gtr rfl rfl rfl ?_
    refine r_pickF rfl rfl hg2_8 ?_
    refine LW.nil (thenE_norm ⟨rfl, rfl, rfl⟩)
  · simp only [List.take_succ_cons, List.take_zero]
    refine LW.skip rfl (fun _ e => by cases e; decide) rfl hg2_8 ?_
    refine LW.skip rfl (fun _ e => by cases e; decide) rfl hg2_8 ?_
    refine LW.skip rfl (fun _ e => by cases e; decide) rfl hg2_8 ?_
    refine r_pickT rfl rfl hg2_8 ?_
    refine LW.nil (thenE_norm ⟨rfl, rfl, rfl⟩)
  simp only [setL, keepE, upd_get, ev, Nat.reduceEqDiff, ↓reduceIte]; simp only [List.drop_succ_cons, List.drop_zero]
  refine LW.nil ?_
  refine thenE_norm (h4 _ _ ?_); clear h4; try clear K4
  refine CW.cond rfl (fun hc1 => ?_) (fun hc1 => ?_)
  · try simp only [decide_eq_true_eq, decide_eq_false_iff_not, Bool.and_eq_true, Bool.or_eq_true, Bool.and_eq_false_iff, Bool.or_eq_false_iff, Bool.not_eq_true', Bool.not_eq_false', beq_iff_eq, bne_iff_ne, ne_eq, Decidable.not_not] at hc1
    refine CW.seq (fun K5 h5 => ?_)
    refine CW.region ?_
    refine r_move rfl ?_
    refine r_neqP rfl Try.underlying42 rfl rfl ?_
    refine r_move rfl ?_
    refine LW.known (t := 36) (c := true) rfl (by first | rfl | (simp only [decide_eq_true_eq, decide_eq_false_iff_not, Bool.and_eq_true, Bool.or_eq_true, Bool.and_eq_false_iff, Bool.or_eq_false_iff, Bool.not_eq_true', Bool.not_eq_false', beq_iff_eq, bne_iff_ne]; omega) | simp_all) (fun hg3_3 => ?_)
    refine LW.want rfl rfl hg3_3 ?_
    refine r_call rfl Try.call22 (by simp only [List.map_cons, List.map_nil, List.map_toArray, List.toList_toArray, upd_get, ev, Nat.reduceEqDiff, ↓reduceIte] <;> rfl) (awake15_c _) ?_
    rintro _ w3_3 ⟨rfl, X⟩
    refine ⟨_, rfl, ?_⟩
    replace H := SH.same H X
    clear X
    refine r_pickT rfl rfl hg3_3 ?_
    refine r_assign rfl ?_
    refine LW.nil ?_
    refine thenE_norm (h5 _ _ ?_); clear h5; try clear K5
    refine CW.ret (thenE_ret (ret1 Try.results5 (by simp only [upd_get, ev, Nat.reduceEqDiff, ↓reduceIte]; rfl) ?_))
    exact ⟨rfl, H.ext⟩
  · try simp only [decide_eq_true_eq, decide_eq_false_iff_not, Bool.and_eq_true, Bool.or_eq_true, Bool.and_eq_false_iff, Bool.or_eq_false_iff, Bool.not_eq_true', Bool.not_eq_false', beq_iff_eq, bne_iff_ne, ne_eq, Decidable.not_not] at hc1
    refine CW.skip ?_
    refine thenE_norm (h3 _ _ ?_); clear h3; try clear K3
    refine CW.seq (fun K6 h6 => ?_)
    refine CW.region ?_
    refine r_move rfl ?_
    refine r_convI rfl Try.underlying5 Try.underlying3 rfl (wr_i64 (by omega) (by omega)) ?_
    refine r_move rfl ?_
    refine r_convI rfl Try.underlying5 Try.underlying3 rfl (wr_i64 (by omega) (by omega)) ?_
    refine r_add rfl rfl rfl (wr_i64 (by omega) (by omega)) ?_
    refine r_move rfl ?_
    refine r_convI rfl Try.underlying5 Try.underlying3 rfl (wr_i64 (by omega) (by omega)) ?_
    refine r_add rfl rfl rfl (wr_i64 (by omega) (by omega)) ?_
    refine r_assign rfl ?_
    refine r_assign rfl ?_
    refine LW.nil ?_
    refine thenE_norm ?_
    refine cut (K := K6) [2, 3, 4, 11, 12, 13] (fun σ => ?_)
    simp only [setL, keepE, upd_get, ev, Nat.reduceEqDiff, ↓reduceIte]
    refine h6 _ _ ?_; clear h6; try clear K6
    refine CW.seq (fun K7 h7 => ?_)
    refine CW.seq (fun K8 h8 => ?_)
    refine CW.region ?_
    refine r_assign rfl ?_
    refine LW.nil ?_
    refine thenE_norm (h8 _ _ ?_); clear h8; try clear K8
    refine CW.block ?_
    refine CW.loopR [2, 3, 4, 11, 12, 13] [14] (fun m vs w' => ∃ (i : Nat) (s : LnS) (FN : Nat → Prop), vs = [.int .i64 i] ∧ i ≤ ls.length ∧ m = ls.length - i ∧ LbS s a i ∧ SH Non Any w w' [.R (Old w) v2 ls, .R (Old w) v3 gs, .P FN (LrnA p s FN)]) (ls.length) ?_ ?_
    · exact ⟨0, _, _, rfl, by omega, by omega, ⟨rfl, rfl, .inl ⟨rfl, rfl⟩⟩, H⟩
    try clear H
    rintro n1 vs1 wL1 σ ⟨i, s, FN, rfl, hi, rfl, hs, H⟩
    simp only [setL, keepE, upd_get, ev, Nat.reduceEqDiff, ↓reduceIte]
    refine CW.seq (fun K9 h9 => ?_)
    refine CW.seq (fun K10 h10 => ?_)
    refine CW.region ?_
    refine r_move rfl ?_
    refine r_move rfl ?_
    first
      | refine r_lenV rfl Try.underlying22 (by simp only [upd_get, ev, Nat.reduceEqDiff, ↓reduceIte] <;> rfl) (by first | assumption | exact SH.rsR H (by (repeat first | exact At.here | apply At.there); done) | exact SH.rsO H (by (repeat first | exact At.here | apply At.there); done) | exact (Rs.nil : Rs Non _ _ _)) ?_
      | refine r_len rfl Try.underlying22 rfl ?_
    refine r_lss rfl rfl rfl ?_
    refine LW.nil ?_
    refine thenE_norm (h10 _ _ ?_); clear h10; try clear K10
    refine CW.cond rfl (fun hc2 => ?_) (fun hc2 => ?_)
    · try simp only [decide_eq_true_eq, decide_eq_false_iff_not, Bool.and_eq_true, Bool.or_eq_true, Bool.and_eq_false_iff, Bool.or_eq_false_iff, Bool.not_eq_true', Bool.not_eq_false', beq_iff_eq, bne_iff_ne, ne_eq, Decidable.not_not] at hc2
      refine CW.skip ?_
      refine thenE_norm (h9 _ _ ?_); clear h9; try clear K9
      refine CW.seq (fun K11 h11 => ?_)
      refine CW.block ?_
      refine CW.seq (fun K12 h12 => ?_)
      obtain ⟨x, hx⟩ := get_of_lt (show i < ls.length by omega)
      have hxl := x.toNat_lt
      have hmod0 := Int.emod_nonneg (x.toNat : Int) (show (5 : Int) ≠ 0 from by decide)
      have hmod1 := Int.emod_lt_of_pos (x.toNat : Int) (show (0 : Int) < 5 from by decide)
      obtain ⟨hcd, hs', -⟩ := lb_hear (X := ⟨false, 0, ⟨0, 0⟩, 1, .slice none 0 0⟩) (rs := []) hs (show i ≤ 2 by omega) (Int.le_refl a) ⟨a0, by omega⟩ ⟨hmod0, hmod1⟩ rfl
      refine CW.region ?_
      refine r_move rfl ?_
      refine r_move rfl ?_
      refine r_move rfl ?_
      refine r_indexAddrV rfl Try.underlying22 (by simp only [upd_get, ev, Nat.reduceEqDiff, ↓reduceIte] <;> rfl) rfl (by first | assumption | exact SH.rsR H (by (repeat first | exact At.here | apply At.there); done) | exact SH.rsO H (by (repeat first | exact At.here | apply At.there); done) | exact (Rs.nil : Rs Non _ _ _)) (by exact Try.sizeOf5) (by omega) (by omega) ?_
      refine r_load rfl Try.isAgg5 rfl (by first | exact Rs.cell (by first | assumption | exact SH.rsR H (by (repeat first | exact At.here | apply At.there); done) | exact SH.rsO H (by (repeat first | exact At.here | apply At.there); done) | exact (Rs.nil : Rs Non _ _ _)) (by assumption) (by rfl) | exact Rs.cell0 (by first | assumption | exact SH.rsR H (by (repeat first | exact At.here | apply At.there); done) | exact SH.rsO H (by (repeat first | exact At.here | apply At.there); done) | exact (Rs.nil : Rs Non _ _ _)) (by assumption) (by rfl) | assumption) ?_
      refine r_convI rfl Try.underlying5 Try.underlying3 rfl (wr_i64 (by omega) (by omega)) ?_
      refine r_rem rfl rfl rfl (by omega) (by omega) (wr_i64 (by omega) (by omega)) ?_
      refine r_move rfl ?_
      refine r_buildQ rfl Try.underlying27 Try.zeroValue27 rfl (pl := [(0, 1), (1, 1), (2, 2), (4, 1), (5, 1)]) (by intro w; simp [go_sem]) (qs := [(3, [_])]) (cs := [.bool false, .int .i64 0, .int .i64 0, .int .i64 0, _, .slice none 0 0]) ⟨rfl, cells_one (by simp only [upd_get, ev, Nat.reduceEqDiff, ↓reduceIte] <;> rfl) (by first | rfl | exact Rs.oneC (by first | assumption | exact SH.rsR H (by (repeat first | exact At.here | apply At.there); done) | exact SH.rsO H (by (repeat first | exact At.here | apply At.there); done) | exact (Rs.nil : Rs Non _ _ _))), trivial⟩ rfl ?_
      refine r_call rfl Try.call23 (by simp only [List.map_cons, List.map_nil, List.map_toArray, List.toList_toArray, upd_get, ev, Nat.reduceEqDiff, ↓reduceIte] <;> rfl) (Hear_c (F2 := Non) _ _ 3 ⟨_, _, ⟨_, _⟩, _, _⟩ _ (SH.prop H (i := 2) rfl) Rs.nil (fun _ h => h.elim) nil_small) ?_
      rintro _ w8_9 ⟨FN8_9, rfl, K⟩
      refine ⟨_, rfl, ?_⟩
      replace H := SH.updP H (i := 2) rfl K
      clear K
      try dsimp only [replC, List.cons_append, List.nil_append, List.append_nil] at H
      refine r_neq rfl rfl rfl ?_
      refine LW.nil ?_
      refine thenE_norm ?_
      refine cut (K := K12) [2, 3, 4, 11, 12, 13, 14, 63] (fun σ => ?_)
      simp only [setL, keepE, upd_get, ev, Nat.reduceEqDiff, ↓reduceIte]
      refine h12 _ _ ?_; clear h12; try clear K12
      refine CW.condF rfl (by rw [hcd]; simp) ?_
      refine CW.skip ?_
      refine blockE_norm ?_
      refine thenE_norm (h11 _ _ ?_); clear h11; try clear K11
      refine CW.region ?_
      refine r_move rfl ?_
      refine r_add rfl rfl rfl (wr_i64 (by omega) (by omega)) ?_
      refine r_assign rfl ?_
      refine LW.nil ?_
      refine thenE_norm ⟨rfl, ?_⟩
      exact ⟨ls.length - (i + 1), by omega, i + 1, _, _, rfl, by omega, rfl, hs', H⟩
    · try simp only [decide_eq_true_eq, decide_eq_false_iff_not, Bool.and_eq_true, Bool.or_eq_true, Bool.and_eq_false_iff, Bool.or_eq_false_iff, Bool.not_eq_true', Bool.not_eq_false', beq_iff_eq, bne_iff_ne, ne_eq, Decidable.not_not] at hc2
      refine CW.exit (thenE_exit (thenE_exit (blockE_hit ?_)))
      refine thenE_norm (h7 _ _ ?_); clear h7; try clear K7
      refine CW.seq (fun K13 h13 => ?_)
      refine CW.seq (fun K14 h14 => ?_)
      obtain rfl : i = ls.length := by omega
      refine CW.region ?_
      refine r_assign rfl ?_
      refine LW.nil ?_
      refine thenE_norm (h14 _ _ ?_); clear h14; try clear K14
      refine CW.block ?_
      refine CW.loopR [3, 4, 11, 12, 13] [15] (fun m vs w' => ∃ (j : Nat) (s : LnS) (FN : Nat → Prop), vs = [.int .i64 j] ∧ j ≤ gs.length ∧ m = gs.length - j ∧ ((j = 0 ∧ LbS s a ls.length) ∨ (0 < j ∧ LbS s (a + 1 + b) j)) ∧ SH Non Any w w' [.R (Old w) v2 ls, .R (Old w) v3 gs, .P FN (LrnA p s FN)]) (gs.length) ?_ ?_
      · exact ⟨0, s, FN, rfl, by omega, by omega, .inl ⟨rfl, hs⟩, H⟩
      try clear H
      rintro n2 vs2 wL2 σ ⟨j, s, FN, rfl, hj, rfl, hs, H⟩
      simp only [setL, keepE, upd_get, ev, Nat.reduceEqDiff, ↓reduceIte]
      refine CW.seq (fun K15 h15 => ?_)
      refine CW.seq (fun K16 h16 => ?_)
      refine CW.region ?_
      refine r_move rfl ?_
      refine r_move rfl ?_
      first
        | refine r_lenV rfl Try.underlying22 (by simp only [upd_get, ev, Nat.reduceEqDiff, ↓reduceIte] <;> rfl) (by first | assumption | exact SH.rsR H (by (repeat first | exact At.here | apply At.there); done) | exact SH.rsO H (by (repeat first | exact At.here | apply At.there); done) | exact (Rs.nil : Rs Non _ _ _)) ?_
        | refine r_len rfl Try.underlying22 rfl ?_
      refine r_lss rfl rfl rfl ?_
      refine LW.nil ?_
      refine thenE_norm (h16 _ _ ?_); clear h16; try clear K16
      refine CW.cond rfl (fun hc4 => ?_) (fun hc4 => ?_)
      · try simp only [decide_eq_true_eq, decide_eq_false_iff_not, Bool.and_eq_true, Bool.or_eq_true, Bool.and_eq_false_iff, Bool.or_eq_false_iff, Bool.not_eq_true', Bool.not_eq_false', beq_iff_eq, bne_iff_ne, ne_eq, Decidable.not_not] at hc4
        refine CW.skip ?_
        refine thenE_norm (h15 _ _ ?_); clear h15; try clear K15
        refine CW.seq (fun K17 h17 => ?_)
        refine CW.block ?_
        refine CW.seq (fun K18 h18 => ?_)
        obtain ⟨x, hx⟩ := get_of_lt (show j < gs.length by omega)
        have hxl := x.toNat_lt
        have hmod0 := Int.emod_nonneg (x.toNat : Int) (show (5 : Int) ≠ 0 from by decide)
        have hmod1 := Int.emod_lt_of_pos (x.toNat : Int) (show (0 : Int) < 5 from by decide)
        have hgo : (hearM s ((x.toNat : Int) % 5) (a + 1 + b) 3 ⟨false, 0, ⟨0, 0⟩, 2, .slice none 0 0⟩ []).2 = 0 ∧ LbS (hearM s ((x.toNat : Int) % 5) (a + 1 + b) 3 ⟨false, 0, ⟨0, 0⟩, 2, .slice none 0 0⟩ []).1 (a + 1 + b) (j + 1) := by
          rcases hs with ⟨rfl, hs⟩ | ⟨h0, hs⟩
          · obtain ⟨q1, q2, q3⟩ := lb_hear (X := ⟨false, 0, ⟨0, 0⟩, 2, .slice none 0 0⟩) (rs := []) hs (by omega) (show a ≤ a + 1 + b by omega) ⟨by omega, by omega⟩ ⟨hmod0, hmod1⟩ rfl
            exact ⟨q1, q3 (by omega)⟩
          · obtain ⟨q1, q2, q3⟩ := lb_hear (X := ⟨false, 0, ⟨0, 0⟩, 2, .slice none 0 0⟩) (rs := []) hs (by omega) (Int.le_refl _) ⟨by omega, by omega⟩ ⟨hmod0, hmod1⟩ rfl
            exact ⟨q1, q2⟩
        obtain ⟨hcd, hs'⟩ := hgo
        refine CW.region ?_
        refine r_move rfl ?_
        refine r_move rfl ?_
        refine r_move rfl ?_
        refine r_indexAddrV rfl Try.underlying22 (by simp only [upd_get, ev, Nat.reduceEqDiff, ↓reduceIte] <;> rfl) rfl (by first | assumption | exact SH.rsR H (by (repeat first | exact At.here | apply At.there); done) | exact SH.rsO H (by (repeat first | exact At.here | apply At.there); done) | exact (Rs.nil : Rs Non _ _ _)) (by exact Try.sizeOf5) (by omega) (by omega) ?_
        refine r_load rfl Try.isAgg5 rfl (by first | exact Rs.cell (by first | assumption | exact SH.rsR H (by (repeat first | exact At.here | apply At.there); done) | exact SH.rsO H (by (repeat first | exact At.here | apply At.there); done) | exact (Rs.nil : Rs Non _ _ _)) (by assumption) (by rfl) | exact Rs.cell0 (by first | assumption | exact SH.rsR H (by (repeat first | exact At.here | apply At.there); done) | exact SH.rsO H (by (repeat first | exact At.here | apply At.there); done) | exact (Rs.nil : Rs Non _ _ _)) (by assumption) (by rfl) | assumption) ?_
        refine r_convI rfl Try.underlying5 Try.underlying3 rfl (wr_i64 (by omega) (by omega)) ?_
        refine r_rem rfl rfl rfl (by omega) (by omega) (wr_i64 (by omega) (by omega)) ?_
        refine r_move rfl ?_
        refine r_buildQ rfl Try.underlying27 Try.zeroValue27 rfl (pl := [(0, 1), (1, 1), (2, 2), (4, 1), (5, 1)]) (by intro w; simp [go_sem]) (qs := [(3, [_])]) (cs := [.bool false, .int .i64 0, .int .i64 0, .int .i64 0, _, .slice none 0 0]) ⟨rfl, cells_one (by simp only [upd_get, ev, Nat.reduceEqDiff, ↓reduceIte] <;> rfl) (by first | rfl | exact Rs.oneC (by first | assumption | exact SH.rsR H (by (repeat first | exact At.here | apply At.there); done) | exact SH.rsO H (by (repeat first | exact At.here | apply At.there); done) | exact (Rs.nil : Rs Non _ _ _))), trivial⟩ rfl ?_
        refine r_call rfl Try.call23 (by simp only [List.map_cons, List.map_nil, List.map_toArray, List.toList_toArray, upd_get, ev, Nat.reduceEqDiff, ↓reduceIte] <;> rfl) (Hear_c (F2 := Non) _ _ 3 ⟨_, _, ⟨_, _⟩, _, _⟩ _ (SH.prop H (i := 2) rfl) Rs.nil (fun _ h => h.elim) nil_small) ?_
        rintro _ w13_9 ⟨FN13_9, rfl, K⟩
        refine ⟨_, rfl, ?_⟩
        replace H := SH.updP H (i := 2) rfl K
        clear K
        try dsimp only [replC, List.cons_append, List.nil_append, List.append_nil] at H
        refine r_neq rfl rfl rfl ?_
        refine LW.nil ?_
        refine thenE_norm ?_
        refine cut (K := K18) [3, 4, 11, 12, 13, 15, 80] (fun σ => ?_)
        simp only [setL, keepE, upd_get, ev, Nat.reduceEqDiff, ↓reduceIte]
        refine h18 _ _ ?_; clear h18; try clear K18
        refine CW.condF rfl (by rw [hcd]; simp) ?_
        refine CW.skip ?_
        refine blockE_norm ?_
        refine thenE_norm (h17 _ _ ?_); clear h17; try clear K17
        refine CW.region ?_
        refine r_move rfl ?_
        refine r_add rfl rfl rfl (wr_i64 (by omega) (by omega)) ?_
        refine r_assign rfl ?_
        refine LW.nil ?_
        refine thenE_norm ⟨rfl, ?_⟩
        exact ⟨gs.length - (j + 1), by omega, j + 1, _, _, rfl, by omega, rfl, .inr ⟨by omega, hs'⟩, H⟩
      · try simp only [decide_eq_true_eq, decide_eq_false_iff_not, Bool.and_eq_true, Bool.or_eq_true, Bool.and_eq_false_iff, Bool.or_eq_false_iff, Bool.not_eq_true', Bool.not_eq_false', beq_iff_eq, bne_iff_ne, ne_eq, Decidable.not_not] at hc4
        refine CW.exit (thenE_exit (thenE_exit (blockE_hit ?_)))
        refine thenE_norm (h13 _ _ ?_); clear h13; try clear K13
        refine CW.seq (fun K19 h19 => ?_)
        obtain rfl : j = gs.length := by omega
        have hno : chosenT s.n (lookM s.heard 3) = false := by
          rcases hs with ⟨h0, hs⟩ | ⟨h0, hs⟩
          · rw [hs.1]; exact lb_no hs (by omega)
          · rw [hs.1]; exact lb_no hs (by omega)
        have hmm0 := Int.emod_nonneg m (show (5 : Int) ≠ 0 from by decide)
        have hmm1 := Int.emod_lt_of_pos m (show (0 : Int) < 5 from by decide)
        refine CW.region ?_
        refine r_move rfl ?_
        refine r_call rfl Try.call24 (by simp only [List.map_cons, List.map_nil, List.map_toArray, List.toList_toArray, upd_get, ev, Nat.reduceEqDiff, ↓reduceIte] <;> rfl) (Chosen_c _ _ (SH.prop H (by (repeat first | exact At.here | apply At.there); done))) ?_
        rintro _ w15_1 ⟨v15_1, g15_1, rfl, K⟩
        refine ⟨_, rfl, ?_⟩
        replace H := SH.call H K
        clear K
        try dsimp only [replC, List.cons_append, List.nil_append, List.append_nil] at H
        rw [hno]
        refine r_move rfl ?_
        refine r_extract rfl (by simp only [upd_get, ev, Nat.reduceEqDiff, ↓reduceIte] <;> rfl) (by simp only [List.getElem?_toArray, List.getElem?_cons_zero, List.getElem?_cons_succ] <;> rfl) ?_
        refine r_extract rfl (by simp only [upd_get, ev, Nat.reduceEqDiff, ↓reduceIte] <;> rfl) (by simp only [List.getElem?_toArray, List.getElem?_cons_zero, List.getElem?_cons_succ] <;> rfl) ?_
        refine s_alloc (cs := [.bool false, .int .i64 0, .int .i64 0, .int .i64 0, .int .i64 0, .slice none 0 0]) H rfl Try.zeroValue27 rfl ?_
        clear H
        intro b15_5 w15_5 H
        try dsimp only [replC, List.cons_append, List.nil_append, List.append_nil, agg, cellsL, Value.cells, List.toList_toArray, List.set_cons_zero, List.set_cons_succ, spliceL, List.take_succ_cons, List.take_zero, List.drop_succ_cons, List.drop_zero, List.length_cons, List.length_nil, Nat.reduceAdd, Row.cells, Cm.L, Rq.L, Tp.L, Bat.L, Ty.L] at H
        refine s_storeA H Try.sizeOf27 rfl (by simp only [upd_get, ev, Nat.reduceEqDiff, ↓reduceIte] <;> rfl) (by simp only [cellsL, agg, List.toList_toArray, Row.cells, Cm.L, Rq.L, Tp.L, Bat.L, Ty.L] <;> rfl) (by rfl) (by first | rfl | assumption | exact Rs.oneC (by first | assumption | exact SH.rsR H (by (repeat first | exact At.here | apply At.there); done) | exact SH.rsO H (by (repeat first | exact At.here | apply At.there); done) | exact (Rs.nil : Rs Non _ _ _)) | (simp only [List.all_cons, List.all_nil, Bool.and_true, Bool.and_eq_true, Row.cells, Cm.L, Rq.L, Tp.L, Bat.L, Ty.L]; (repeat' constructor) <;> first | rfl | assumption | exact Rs.oneC (by first | assumption | exact SH.rsR H (by (repeat first | exact At.here | apply At.there); done) | exact SH.rsO H (by (repeat first | exact At.here | apply At.there); done) | exact (Rs.nil : Rs Non _ _ _)))) (by (repeat first | exact At.here | apply At.there); done) (by first | (simp; done) | decide | (show _ ≤ _; decide)) ?_
        clear H
        intro w15_6 H
        try dsimp only [replC, List.cons_append, List.nil_append, List.append_nil, agg, cellsL, Value.cells, List.toList_toArray, List.set_cons_zero, List.set_cons_succ, spliceL, List.take_succ_cons, List.take_zero, List.drop_succ_cons, List.drop_zero, List.length_cons, List.length_nil, Nat.reduceAdd, Row.cells, Cm.L, Rq.L, Tp.L, Bat.L, Ty.L] at H
        refine r_assign rfl ?_
        refine LW.nil ?_
        refine thenE_norm ?_
        refine cut (K := K19) [3, 4, 11, 12, 13, 17] (fun σ => ?_)
        simp only [setL, keepE, upd_get, ev, Nat.reduceEqDiff, ↓reduceIte]
        refine h19 _ _ ?_; clear h19; try clear K19
        refine CW.seq (fun K20 h20 => ?_)
        refine CW.region ?_
        refine r_move rfl ?_
        refine r_move rfl ?_
        refine r_convI rfl Try.underlying5 Try.underlying3 rfl (wr_i64 (by omega) (by omega)) ?_
        refine r_rem rfl rfl rfl (by omega) (by omega) (wr_i64 (by omega) (by omega)) ?_
        refine r_move rfl ?_
        refine r_buildQ rfl Try.underlying27 Try.zeroValue27 rfl (pl := [(0, 1), (1, 1), (2, 2), (4, 1), (5, 1)]) (by intro w; simp [go_sem]) (qs := [(3, [_])]) (cs := [.bool false, .int .i64 0, .int .i64 0, .int .i64 0, _, .slice none 0 0]) ⟨rfl, cells_one (by simp only [upd_get, ev, Nat.reduceEqDiff, ↓reduceIte] <;> rfl) (by first | rfl | exact Rs.oneC (by first | assumption | exact SH.rsR H (by (repeat first | exact At.here | apply At.there); done) | exact SH.rsO H (by (repeat first | exact At.here | apply At.there); done) | exact (Rs.nil : Rs Non _ _ _))), trivial⟩ rfl ?_
        refine r_call rfl Try.call23 (by simp only [List.map_cons, List.map_nil, List.map_toArray, List.toList_toArray, upd_get, ev, Nat.reduceEqDiff, ↓reduceIte] <;> rfl) (Hear_c (F2 := Non) _ _ 3 ⟨_, _, ⟨_, _⟩, _, _⟩ _ (SH.prop H (i := 2) rfl) Rs.nil (fun _ h => h.elim) nil_small) ?_
        rintro _ w16_6 ⟨FN16_6, rfl, K⟩
        refine ⟨_, rfl, ?_⟩
        replace H := SH.updP H (i := 2) rfl K
        clear K
        try dsimp only [replC, List.cons_append, List.nil_append, List.append_nil] at H
        refine r_assign rfl ?_
        refine LW.nil ?_
        refine thenE_norm ?_
        refine cut (K := K20) [3, 11, 12, 13, 17, 18] (fun σ => ?_)
        simp only [setL, keepE, upd_get, ev, Nat.reduceEqDiff, ↓reduceIte]
        refine h20 _ _ ?_; clear h20; try clear K20
        refine CW.seq (fun K21 h21 => ?_)
        rcases hs with ⟨h0, hs⟩ | ⟨h0, hs⟩
        · obtain ⟨hcd, hs', -⟩ := lb_hear (X := ⟨false, 0, ⟨0, 0⟩, 1, .slice none 0 0⟩) (rs := []) hs (by omega) (Int.le_refl a) ⟨a0, by omega⟩ ⟨hmm0, hmm1⟩ rfl
          obtain ⟨ht1, ht2, ht3⟩ := lb_told hs' (by omega)
          generalize hearM s (m % 5) a 3 ⟨false, 0, ⟨0, 0⟩, 1, .slice none 0 0⟩ [] = SC at *
          obtain ⟨S1, C1⟩ := SC
          dsimp only at hcd hs' ht1 ht2 ht3 H ⊢
          refine CW.region ?_
          refine r_move rfl ?_
          refine r_call rfl Try.call26 (by simp only [List.map_cons, List.map_nil, List.map_toArray, List.toList_toArray, upd_get, ev, Nat.reduceEqDiff, ↓reduceIte] <;> rfl) (Heard_c _ _ (SH.prop H (by (repeat first | exact At.here | apply At.there); done))) ?_
          rintro _ w17_1 ⟨v17_1, g17_1, rfl, K⟩
          refine ⟨_, rfl, ?_⟩
          replace H := SH.call H K
          clear K
          try dsimp only [replC, List.cons_append, List.nil_append, List.append_nil] at H
          refine r_move rfl ?_
          refine r_extract rfl (by simp only [upd_get, ev, Nat.reduceEqDiff, ↓reduceIte] <;> rfl) (by simp only [List.getElem?_toArray, List.getElem?_cons_zero, List.getElem?_cons_succ] <;> rfl) ?_
          refine r_extract rfl (by simp only [upd_get, ev, Nat.reduceEqDiff, ↓reduceIte] <;> rfl) (by simp only [List.getElem?_toArray, List.getElem?_cons_zero, List.getElem?_cons_succ] <;> rfl) ?_
          refine r_assign rfl ?_
          refine r_assign rfl ?_
          refine LW.nil ?_
          refine thenE_norm (h21 _ _ ?_); clear h21; try clear K21
          refine CW.seq (fun K22 h22 => ?_)
          refine CW.seq (fun K23 h23 => ?_)
          refine CW.region ?_
          refine r_move rfl ?_
          first
            | refine r_lenV rfl Try.underlying22 (by simp only [upd_get, ev, Nat.reduceEqDiff, ↓reduceIte] <;> rfl) (by first | assumption | exact SH.rsR H (by (repeat first | exact At.here | apply At.there); done) | exact SH.rsO H (by (repeat first | exact At.here | apply At.there); done) | exact (Rs.nil : Rs Non _ _ _)) ?_
            | refine r_len rfl Try.underlying22 rfl ?_
          refine r_eql rfl rfl rfl ?_
          refine LW.nil ?_
          refine thenE_norm ?_
          refine cut (K := K23) [3, 12, 13, 17, 18, 19, 20, 100] (fun σ => ?_)
          simp only [setL, keepE, upd_get, ev, Nat.reduceEqDiff, ↓reduceIte]
          refine h23 _ _ ?_; clear h23; try clear K23
          refine CW.condT rfl (decide_eq_true (by omega)) ?_
          refine CW.seq (fun K24 h24 => ?_)
          refine CW.region ?_
          refine r_move rfl ?_
          refine r_not rfl rfl ?_
          refine r_move rfl ?_
          refine LW.known (t := 103) (c := true) rfl (by first | rfl | (simp only [decide_eq_true_eq, decide_eq_false_iff_not, Bool.and_eq_true, Bool.or_eq_true, Bool.and_eq_false_iff, Bool.or_eq_false_iff, Bool.not_eq_true', Bool.not_eq_false', beq_iff_eq, bne_iff_ne]; omega) | simp_all) (fun hg19_3 => ?_)
          refine LW.want rfl rfl hg19_3 ?_
          refine r_move rfl ?_
          refine LW.want rfl rfl hg19_3 ?_
          refine r_eql rfl rfl rfl ?_
          refine r_pickT rfl rfl hg19_3 ?_
          refine r_move rfl ?_
          refine LW.known (t := 107) (c := true) rfl (decide_eq_true hcd) (fun hg19_7 => ?_)
          refine LW.want rfl rfl hg19_7 ?_
          refine r_move rfl ?_
          refine LW.want rfl rfl hg19_7 ?_
          refine r_move rfl ?_
          refine LW.want rfl rfl hg19_7 ?_
          refine r_eql rfl rfl rfl ?_
          refine r_pickT rfl rfl hg19_7 ?_
          refine r_move rfl ?_
          refine LW.known (t := 112) (c := true) rfl (decide_eq_true ht1) (fun hg19_12 => ?_)
          refine LW.want rfl rfl hg19_12 ?_
          refine r_call rfl Try.call22 (by simp only [List.map_cons, List.map_nil, List.map_toArray, List.toList_toArray, upd_get, ev, Nat.reduceEqDiff, ↓reduceIte] <;> rfl) (awake15_c _) ?_
          rintro _ w19_12 ⟨rfl, X⟩
          refine ⟨_, rfl, ?_⟩
          replace H := SH.same H X
          clear X
          refine r_pickT rfl rfl hg19_12 ?_
          refine r_assign rfl ?_
          refine LW.nil ?_
          refine thenE_norm ?_
          refine cut (K := K24) [10] (fun σ => ?_)
          simp only [setL, keepE, upd_get, ev, Nat.reduceEqDiff, ↓reduceIte]
          refine h24 _ _ ?_; clear h24; try clear K24
          refine CW.ret (thenE_ret (ret1 Try.results5 (by simp only [upd_get, ev, Nat.reduceEqDiff, ↓reduceIte]; rfl) ?_))
          exact ⟨rfl, H.ext⟩
        · have hcd := lb_old (X := ⟨false, 0, ⟨0, 0⟩, 1, .slice none 0 0⟩) (rs := []) hs (by omega) h0 (show a < a + 1 + b by omega) ⟨a0, by omega⟩ ⟨hmm0, hmm1⟩ rfl
          obtain ⟨ht1, ht2, ht3⟩ := lb_told hs h0
          rw [hcd] at H ⊢
          dsimp only at H ⊢
          refine CW.region ?_
          refine r_move rfl ?_
          refine r_call rfl Try.call26 (by simp only [List.map_cons, List.map_nil, List.map_toArray, List.toList_toArray, upd_get, ev, Nat.reduceEqDiff, ↓reduceIte] <;> rfl) (Heard_c _ _ (SH.prop H (by (repeat first | exact At.here | apply At.there); done))) ?_
          rintro _ w17_1 ⟨v17_1, g17_1, rfl, K⟩
          refine ⟨_, rfl, ?_⟩
          replace H := SH.call H K
          clear K
          try dsimp only [replC, List.cons_append, List.nil_append, List.append_nil] at H
          refine r_move rfl ?_
          refine r_extract rfl (by simp only [upd_get, ev, Nat.reduceEqDiff, ↓reduceIte] <;> rfl) (by simp only [List.getElem?_toArray, List.getElem?_cons_zero, List.getElem?_cons_succ] <;> rfl) ?_
          refine r_extract rfl (by simp only [upd_get, ev, Nat.reduceEqDiff, ↓reduceIte] <;> rfl) (by simp only [List.getElem?_toArray, List.getElem?_cons_zero, List.getElem?_cons_succ] <;> rfl) ?_
          refine r_assign rfl ?_
          refine r_assign rfl ?_
          refine LW.nil ?_
          refine thenE_norm (h21 _ _ ?_); clear h21; try clear K21
          refine CW.seq (fun K25 h25 => ?_)
          refine CW.seq (fun K26 h26 => ?_)
          refine CW.region ?_
          refine r_move rfl ?_
          first
            | refine r_lenV rfl Try.underlying22 (by simp only [upd_get, ev, Nat.reduceEqDiff, ↓reduceIte] <;> rfl) (by first | assumption | exact SH.rsR H (by (repeat first | exact At.here | apply At.there); done) | exact SH.rsO H (by (repeat first | exact At.here | apply At.there); done) | exact (Rs.nil : Rs Non _ _ _)) ?_
            | refine r_len rfl Try.underlying22 rfl ?_
          refine r_eql rfl rfl rfl ?_
          refine LW.nil ?_
          refine thenE_norm ?_
          refine cut (K := K26) [3, 12, 13, 17, 18, 19, 20, 100] (fun σ => ?_)
          simp only [setL, keepE, upd_get, ev, Nat.reduceEqDiff, ↓reduceIte]
          refine h26 _ _ ?_; clear h26; try clear K26
          refine CW.condF rfl (decide_eq_false (by omega)) ?_
          refine CW.skip ?_
          refine thenE_norm (h25 _ _ ?_); clear h25; try clear K25
          refine CW.seq (fun K27 h27 => ?_)
          refine CW.region ?_
          refine r_move rfl ?_
          refine r_not rfl rfl ?_
          refine r_move rfl ?_
          refine LW.known (t := 117) (c := true) rfl (by first | rfl | (simp only [decide_eq_true_eq, decide_eq_false_iff_not, Bool.and_eq_true, Bool.or_eq_true, Bool.and_eq_false_iff, Bool.or_eq_false_iff, Bool.not_eq_true', Bool.not_eq_false', beq_iff_eq, bne_iff_ne]; omega) | simp_all) (fun hg20_3 => ?_)
          refine LW.want rfl rfl hg20_3 ?_
          refine r_move rfl ?_
          refine LW.want rfl rfl hg20_3 ?_
          refine r_eql rfl rfl rfl ?_
          refine r_pickT rfl rfl hg20_3 ?_
          refine r_move rfl ?_
          refine LW.known (t := 121) (c := true) rfl (by first | rfl | (simp only [decide_eq_true_eq, decide_eq_false_iff_not, Bool.and_eq_true, Bool.or_eq_true, Bool.and_eq_false_iff, Bool.or_eq_false_iff, Bool.not_eq_true', Bool.not_eq_false', beq_iff_eq, bne_iff_ne]; omega) | simp_all) (fun hg20_7 => ?_)
          refine LW.want rfl rfl hg20_7 ?_
          refine r_move rfl ?_
          refine LW.want rfl rfl hg20_7 ?_
          refine r_move rfl ?_
          refine LW.want rfl rfl hg20_7 ?_
          refine r_eql rfl rfl rfl ?_
          refine r_pickT rfl rfl hg20_7 ?_
          refine r_move rfl ?_
          refine LW.known (t := 126) (c := true) rfl (decide_eq_true ht1) (fun hg20_12 => ?_)
          refine LW.want rfl rfl hg20_12 ?_
          refine r_move rfl ?_
          refine LW.want rfl rfl hg20_12 ?_
          first
            | refine r_lenV rfl Try.underlying41 (by simp only [upd_get, ev, Nat.reduceEqDiff, ↓reduceIte] <;> rfl) (by first | assumption | exact SH.rsR H (by (repeat first | exact At.here | apply At.there); done) | exact SH.rsO H (by (repeat first | exact At.here | apply At.there); done) | exact (Rs.nil : Rs Non _ _ _)) ?_
            | refine r_len rfl Try.underlying41 rfl ?_
          refine LW.want rfl rfl hg20_12 ?_
          refine r_geq rfl rfl rfl ?_
          refine r_pickT rfl rfl hg20_12 ?_
          refine r_move rfl ?_
          refine LW.known (t := 131) (c := true) rfl (decide_eq_true (by omega)) (fun hg20_17 => ?_)
          refine LW.want rfl rfl hg20_17 ?_
          refine r_move rfl ?_
          refine LW.want rfl rfl hg20_17 ?_
          first
            | refine r_lenV rfl Try.underlying41 (by simp only [upd_get, ev, Nat.reduceEqDiff, ↓reduceIte] <;> rfl) (by first | assumption | exact SH.rsR H (by (repeat first | exact At.here | apply At.there); done) | exact SH.rsO H (by (repeat first | exact At.here | apply At.there); done) | exact (Rs.nil : Rs Non _ _ _)) ?_
            | refine r_len rfl Try.underlying41 rfl ?_
          refine LW.want rfl rfl hg20_17 ?_
          refine r_move rfl ?_
          refine LW.want rfl rfl hg20_17 ?_
          first
            | refine r_lenV rfl Try.underlying22 (by simp only [upd_get, ev, Nat.reduceEqDiff, ↓reduceIte] <;> rfl) (by first | assumption | exact SH.rsR H (by (repeat first | exact At.here | apply At.there); done) | exact SH.rsO H (by (repeat first | exact At.here | apply At.there); done) | exact (Rs.nil : Rs Non _ _ _)) ?_
            | refine r_len rfl Try.underlying22 rfl ?_
          refine LW.want rfl rfl hg20_17 ?_
          refine r_leq rfl rfl rfl ?_
          refine r_pickT rfl rfl hg20_17 ?_
          refine r_move rfl ?_
          refine LW.known (t := 138) (c := true) rfl (decide_eq_true (by omega)) (fun hg20_24 => ?_)
          refine LW.want rfl rfl hg20_24 ?_
          refine r_call rfl Try.call22 (by simp only [List.map_cons, List.map_nil, List.map_toArray, List.toList_toArray, upd_get, ev, Nat.reduceEqDiff, ↓reduceIte] <;> rfl) (awake15_c _) ?_
          rintro _ w20_24 ⟨rfl, X⟩
          refine ⟨_, rfl, ?_⟩
          replace H := SH.same H X
          clear X
          refine r_pickT rfl rfl hg20_24 ?_
          refine r_assign rfl ?_
          refine LW.nil ?_
          refine thenE_norm ?_
          refine cut (K := K27) [10] (fun σ => ?_)
          simp only [setL, keepE, upd_get, ev, Nat.reduceEqDiff, ↓reduceIte]
          refine h27 _ _ ?_; clear h27; try clear K27
          refine CW.ret (ret1 Try.results5 (by simp only [upd_get, ev, Nat.reduceEqDiff, ↓reduceIte]; rfl) ?_)
          exact ⟨rfl, H.ext⟩
end Go.Proofs.Ytalieccfdmokmaa
