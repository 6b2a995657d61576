/-
  The walks of layer 7's functions, and of the document's, the first part: where a number stands among others; a copy; who joins.
-/
import Derived.Test.YtaggdlbjgjagbaaVSepR
import Derived.Test.YtaggdlbjgjagbaaChecked
namespace Go.Proofs.Ytaggdlbjgjagbaa
set_option linter.unusedSimpArgs false
set_option linter.unusedVariables false
open Go.V Go.RowKit

def clientM (n : Int) : Bool := decide (0 ≤ n) && decide (n < 8)
theorem isClient_c (n : Int) (w : World) : Calls Try.prog 48 #[.int .i64 n] w fun e w' => e = .returned (.bool (clientM n)) ∧ w = w' := by
  refine calls_of_CW Try.func48 rfl Try.ntmps48 (Nat.le_of_ble_eq_true rfl) ?_
  simp only [argE, argFrom, Nat.reduceAdd]
  refine CW.seq (fun K1 h1 => ?_)
  refine CW.region ?_
  refine r_assign rfl ?_
  refine LW.nil ?_
  refine thenE_norm (h1 _ _ ?_); clear h1; try clear K1
  refine CW.seq (fun K2 h2 => ?_)
  refine CW.region ?_
  refine r_move rfl ?_
  refine r_geq rfl rfl rfl ?_
  refine r_move rfl ?_
  refine' LW.grpAnd (n := 3) (ts := []) (d := 8) (tj := 5) rfl (fun hg1_3 => ?_) (fun hg1_3 => ?_) (fun σ => ?_)
  rotate_left
  · simp only [List.take_succ_cons, List.take_zero]
    have hg1_3P := hg1_3
    try simp only [decide_eq_true_eq, decide_eq_false_iff_not, Bool.and_eq_true, Bool.or_eq_true, Bool.and_eq_false_iff, Bool.or_eq_false_iff, Bool.not_eq_true', Bool.not_eq_false', beq_iff_eq, bne_iff_ne] at hg1_3P
    refine LW.want rfl rfl hg1_3 ?_
    refine r_move rfl ?_
    refine LW.want rfl rfl hg1_3 ?_
    refine r_lss rfl rfl rfl ?_
    refine r_pickT rfl rfl hg1_3 ?_
    refine LW.nil (thenE_norm ⟨rfl, rfl, rfl⟩)
  · simp only [List.take_succ_cons, List.take_zero]
    refine LW.skip rfl (fun _ e => by cases e; decide) rfl hg1_3 ?_
    refine LW.skip rfl (fun _ e => by cases e; decide) rfl hg1_3 ?_
    refine r_pickF rfl rfl hg1_3 ?_
    refine LW.nil (thenE_norm ⟨rfl, rfl, rfl⟩)
  simp only [setL, keepE, upd_get, ev, Nat.reduceEqDiff, ↓reduceIte]; simp only [List.drop_succ_cons, List.drop_zero]
  refine r_assign rfl ?_
  refine LW.nil ?_
  refine thenE_norm (h2 _ _ ?_); clear h2; try clear K2
  refine CW.ret (ret1 Try.results48 (by simp only [upd_get, ev, Nat.reduceEqDiff, ↓reduceIte]; rfl) ?_)
  exact ⟨rfl, rfl⟩
theorem clientR_c (n : Int) (w : World) : Calls Try.prog 50 #[.int .i64 n] w fun e w' => e = .returned (.bool (clientM n)) ∧ w = w' := by
  refine calls_of_CW Try.func50 rfl Try.ntmps50 (Nat.le_of_ble_eq_true rfl) ?_
  simp only [argE, argFrom, Nat.reduceAdd]
  refine CW.seq (fun K1 h1 => ?_)
  refine CW.region ?_
  refine r_assign rfl ?_
  refine LW.nil ?_
  refine thenE_norm (h1 _ _ ?_); clear h1; try clear K1
  refine CW.seq (fun K2 h2 => ?_)
  refine CW.region ?_
  refine r_move rfl ?_
  refine r_geq rfl rfl rfl ?_
  refine r_move rfl ?_
  refine' LW.grpAnd (n := 3) (ts := []) (d := 8) (tj := 5) rfl (fun hg1_3 => ?_) (fun hg1_3 => ?_) (fun σ => ?_)
  rotate_left
  · simp only [List.take_succ_cons, List.take_zero]
    have hg1_3P := hg1_3
    try simp only [decide_eq_true_eq, decide_eq_false_iff_not, Bool.and_eq_true, Bool.or_eq_true, Bool.and_eq_false_iff, Bool.or_eq_false_iff, Bool.not_eq_true', Bool.not_eq_false', beq_iff_eq, bne_iff_ne] at hg1_3P
    refine LW.want rfl rfl hg1_3 ?_
    refine r_move rfl ?_
    refine LW.want rfl rfl hg1_3 ?_
    refine r_lss rfl rfl rfl ?_
    refine r_pickT rfl rfl hg1_3 ?_
    refine LW.nil (thenE_norm ⟨rfl, rfl, rfl⟩)
  · simp only [List.take_succ_cons, List.take_zero]
    refine LW.skip rfl (fun _ e => by cases e; decide) rfl hg1_3 ?_
    refine LW.skip rfl (fun _ e => by cases e; decide) rfl hg1_3 ?_
    refine r_pickF rfl rfl hg1_3 ?_
    refine LW.nil (thenE_norm ⟨rfl, rfl, rfl⟩)
  simp only [setL, keepE, upd_get, ev, Nat.reduceEqDiff, ↓reduceIte]; simp only [List.drop_succ_cons, List.drop_zero]
  refine r_assign rfl ?_
  refine LW.nil ?_
  refine thenE_norm (h2 _ _ ?_); clear h2; try clear K2
  refine CW.ret (ret1 Try.results50 (by simp only [upd_get, ev, Nat.reduceEqDiff, ↓reduceIte]; rfl) ?_)
  exact ⟨rfl, rfl⟩

/-- Where a number stands first; -1 if nowhere. -/
def idxM (xs : List Int) (c : Int) : Int := if c ∈ xs then (xs.idxOf c : Int) else -1
theorem notin_snoc {xs : List Int} {c x : Int} {i : Nat} (h : xs[i]? = some x) (h0 : c ∉ xs.take i) (hc : x ≠ c) : c ∉ xs.take (i + 1) := by
  rw [V.take_snoc h]
  simp only [List.mem_append, List.mem_singleton, not_or]
  exact ⟨h0, fun e => hc e.symm⟩
theorem idx_at {xs : List Int} {c : Int} {i : Nat} (h : xs[i]? = some c) (h0 : c ∉ xs.take i) : c ∈ xs ∧ xs.idxOf c = i := by
  have hl := lt_of_get h
  have hc' : xs[i] = c := by rw [List.getElem?_eq_getElem hl] at h; cases h; rfl
  have hm : c ∈ xs := by rw [← hc']; exact List.getElem_mem hl
  refine ⟨hm, ?_⟩
  have e : xs = xs.take i ++ (c :: xs.drop (i + 1)) := by rw [← hc', List.getElem_cons_drop, List.take_append_drop]
  rw [e, List.idxOf_append, if_neg h0, List.idxOf_cons_self, List.length_take, Nat.min_eq_left (by omega)]; omega

theorem Index_c {F : Nat → Prop} {v : Value} {xs : List Int} (c : Int) (w : World) (hv : Rs F w v xs) :
    Calls Try.prog 52 #[v, .int .i64 c] w fun e w' => e = .returned (.int .i64 (idxM xs c)) ∧ w = w' := by
  have h63 := hv.len63
  refine calls_of_CW Try.func52 rfl Try.ntmps52 (Nat.le_of_ble_eq_true rfl) ?_
  simp only [argE, argFrom, Nat.reduceAdd]
  refine CW.seq (fun K1 h1 => ?_)
  refine CW.region ?_
  refine r_assign rfl ?_
  refine LW.nil ?_
  refine thenE_norm (h1 _ _ ?_); clear h1; try clear K1
  refine CW.seq (fun K2 h2 => ?_)
  refine CW.seq (fun K3 h3 => ?_)
  refine CW.region ?_
  refine r_move rfl ?_
  first
    | refine r_lenV rfl Try.underlying22 (by simp only [upd_get, ev, Nat.reduceEqDiff, ↓reduceIte] <;> rfl) (by first | assumption | exact SH.rsR H (by (repeat first | exact At.here | apply At.there); done) | exact SH.rsO H (by (repeat first | exact At.here | apply At.there); done) | exact (Rs.nil : Rs Non _ _ _)) ?_
    | refine r_len rfl Try.underlying22 rfl ?_
  refine r_move rfl ?_
  refine LW.nil ?_
  refine thenE_norm (h3 _ _ ?_); clear h3; try clear K3
  refine CW.block ?_
  refine CW.loopR [0, 1, 7] [8] (fun m vs w' => ∃ i : Nat, vs = [.int .i64 i] ∧ i ≤ xs.length ∧ m = xs.length - i ∧ c ∉ xs.take i ∧ w = w') (xs.length) ?_ ?_
  · exact ⟨0, rfl, by omega, by omega, by simp, rfl⟩
  try clear H
  rintro n1 vs1 wL1 σ ⟨i, rfl, hi, rfl, hno, rfl⟩
  simp only [setL, keepE, upd_get, ev, Nat.reduceEqDiff, ↓reduceIte]
  refine CW.seq (fun K4 h4 => ?_)
  refine CW.region ?_
  refine r_lss rfl rfl rfl ?_
  refine LW.nil ?_
  refine thenE_norm (h4 _ _ ?_); clear h4; try clear K4
  refine CW.seq (fun K5 h5 => ?_)
  refine CW.cond rfl (fun hc1 => ?_) (fun hc1 => ?_)
  · try simp only [decide_eq_true_eq, decide_eq_false_iff_not, Bool.and_eq_true, Bool.or_eq_true, Bool.and_eq_false_iff, Bool.or_eq_false_iff, Bool.not_eq_true', Bool.not_eq_false', beq_iff_eq, bne_iff_ne, ne_eq, Decidable.not_not] at hc1
    refine CW.skip ?_
    refine thenE_norm (h5 _ _ ?_); clear h5; try clear K5
    refine CW.seq (fun K6 h6 => ?_)
    refine CW.block ?_
    refine CW.seq (fun K7 h7 => ?_)
    refine CW.region ?_
    refine r_move rfl ?_
    refine r_assign rfl ?_
    refine LW.nil ?_
    refine thenE_norm (h7 _ _ ?_); clear h7; try clear K7
    refine CW.seq (fun K8 h8 => ?_)
    obtain ⟨x, hx⟩ := get_of_lt (show i < xs.length by omega)
    refine CW.region ?_
    refine r_move rfl ?_
    refine r_move rfl ?_
    refine r_move rfl ?_
    refine r_indexAddrV rfl Try.underlying22 (by simp only [upd_get, ev, Nat.reduceEqDiff, ↓reduceIte] <;> rfl) rfl (by first | assumption | exact SH.rsR H (by (repeat first | exact At.here | apply At.there); done) | exact SH.rsO H (by (repeat first | exact At.here | apply At.there); done) | exact (Rs.nil : Rs Non _ _ _)) (by exact Try.sizeOf3) (by omega) (by omega) ?_
    refine r_load rfl Try.isAgg3 rfl (by first | exact Rs.cell (by first | assumption | exact SH.rsR H (by (repeat first | exact At.here | apply At.there); done) | exact SH.rsO H (by (repeat first | exact At.here | apply At.there); done) | exact (Rs.nil : Rs Non _ _ _)) (by assumption) (by rfl) | exact Rs.cell0 (by first | assumption | exact SH.rsR H (by (repeat first | exact At.here | apply At.there); done) | exact SH.rsO H (by (repeat first | exact At.here | apply At.there); done) | exact (Rs.nil : Rs Non _ _ _)) (by assumption) (by rfl) | assumption) ?_
    refine r_eql rfl rfl rfl ?_
    refine LW.nil ?_
    refine thenE_norm ?_
    refine cut (K := K8) [0, 1, 5, 7, 8, 16] (fun σ => ?_)
    simp only [setL, keepE, upd_get, ev, Nat.reduceEqDiff, ↓reduceIte]
    refine h8 _ _ ?_; clear h8; try clear K8
    refine CW.cond rfl (fun hc2 => ?_) (fun hc2 => ?_)
    · try simp only [decide_eq_true_eq, decide_eq_false_iff_not, Bool.and_eq_true, Bool.or_eq_true, Bool.and_eq_false_iff, Bool.or_eq_false_iff, Bool.not_eq_true', Bool.not_eq_false', beq_iff_eq, bne_iff_ne, ne_eq, Decidable.not_not] at hc2
      refine CW.seq (fun K9 h9 => ?_)
      refine CW.region ?_
      refine r_move rfl ?_
      refine r_assign rfl ?_
      refine LW.nil ?_
      refine thenE_norm (h9 _ _ ?_); clear h9; try clear K9
      refine CW.ret (blockE_ret (thenE_ret (thenE_ret (blockE_ret (thenE_ret (ret1 Try.results52 (by simp only [upd_get, ev, Nat.reduceEqDiff, ↓reduceIte]; rfl) ?_))))))
      have h := idx_at (hc2 ▸ hx) hno
      exact ⟨by rw [idxM, if_pos h.1, h.2], rfl⟩
    · try simp only [decide_eq_true_eq, decide_eq_false_iff_not, Bool.and_eq_true, Bool.or_eq_true, Bool.and_eq_false_iff, Bool.or_eq_false_iff, Bool.not_eq_true', Bool.not_eq_false', beq_iff_eq, bne_iff_ne, ne_eq, Decidable.not_not] at hc2
      refine CW.skip ?_
      refine blockE_norm ?_
      refine thenE_norm (h6 _ _ ?_); clear h6; try clear K6
      refine CW.region ?_
      refine r_add rfl rfl rfl (wr_i64 (by omega) (by omega)) ?_
      refine r_move rfl ?_
      refine LW.nil ?_
      refine thenE_norm ⟨rfl, ?_⟩
      exact ⟨_, by omega, i + 1, rfl, by omega, rfl, notin_snoc hx hno (fun e => hc2 e.symm), rfl⟩
  · try simp only [decide_eq_true_eq, decide_eq_false_iff_not, Bool.and_eq_true, Bool.or_eq_true, Bool.and_eq_false_iff, Bool.or_eq_false_iff, Bool.not_eq_true', Bool.not_eq_false', beq_iff_eq, bne_iff_ne, ne_eq, Decidable.not_not] at hc1
    refine CW.exit (thenE_exit (thenE_exit (blockE_hit ?_)))
    refine thenE_norm (h2 _ _ ?_); clear h2; try clear K2
    refine CW.seq (fun K10 h10 => ?_)
    refine CW.region ?_
    refine r_assign rfl ?_
    refine LW.nil ?_
    refine thenE_norm (h10 _ _ ?_); clear h10; try clear K10
    refine CW.ret (ret1 Try.results52 (by simp only [upd_get, ev, Nat.reduceEqDiff, ↓reduceIte]; rfl) ?_)
    obtain rfl : i = xs.length := by omega
    rw [List.take_length] at hno
    exact ⟨by rw [idxM, if_neg hno], rfl⟩
theorem Contains_c {F : Nat → Prop} {v : Value} {xs : List Int} (c : Int) (w : World) (hv : Rs F w v xs) :
    Calls Try.prog 49 #[v, .int .i64 c] w fun e w' => e = .returned (.bool (decide (c ∈ xs))) ∧ w = w' := by
  refine calls_of_CW Try.func49 rfl Try.ntmps49 (Nat.le_of_ble_eq_true rfl) ?_
  simp only [argE, argFrom, Nat.reduceAdd]
  refine CW.seq (fun K1 h1 => ?_)
  refine CW.region ?_
  refine r_assign rfl ?_
  refine LW.nil ?_
  refine thenE_norm (h1 _ _ ?_); clear h1; try clear K1
  refine CW.seq (fun K2 h2 => ?_)
  refine CW.region ?_
  refine r_move rfl ?_
  refine r_move rfl ?_
  refine r_call rfl Try.call52 (by simp only [List.map_cons, List.map_nil, List.map_toArray, List.toList_toArray, upd_get, ev, Nat.reduceEqDiff, ↓reduceIte] <;> rfl) (Index_c _ _ (by first | assumption | exact SH.rsR H (by (repeat first | exact At.here | apply At.there); done) | exact SH.rsO H (by (repeat first | exact At.here | apply At.there); done) | exact (Rs.nil : Rs Non _ _ _))) ?_
  rintro _ _ ⟨rfl, rfl⟩
  refine ⟨_, rfl, ?_⟩
  refine r_geq rfl rfl rfl ?_
  refine r_assign rfl ?_
  refine LW.nil ?_
  refine thenE_norm (h2 _ _ ?_); clear h2; try clear K2
  refine CW.ret (ret1 Try.results49 (by simp only [upd_get, ev, Nat.reduceEqDiff, ↓reduceIte]; rfl) ?_)
  refine ⟨?_, rfl⟩
  congr 2
  unfold idxM
  split <;> simp_all
theorem In_c {F : Nat → Prop} {v : Value} {xs : List Int} (c : Int) (w : World) (hv : Rs F w v xs) :
    Calls Try.prog 19 #[v, .int .i64 c] w fun e w' => e = .returned (.bool (decide (c ∈ xs))) ∧ w = w' := by
  have h63 := hv.len63
  refine calls_of_CW Try.func19 rfl Try.ntmps19 (Nat.le_of_ble_eq_true rfl) ?_
  simp only [argE, argFrom, Nat.reduceAdd]
  refine CW.seq (fun K1 h1 => ?_)
  refine CW.region ?_
  refine r_assign rfl ?_
  refine LW.nil ?_
  refine thenE_norm (h1 _ _ ?_); clear h1; try clear K1
  refine CW.seq (fun K2 h2 => ?_)
  refine CW.seq (fun K3 h3 => ?_)
  refine CW.region ?_
  refine r_assign rfl ?_
  refine LW.nil ?_
  refine thenE_norm (h3 _ _ ?_); clear h3; try clear K3
  refine CW.block ?_
  refine CW.loopR [0, 1] [5] (fun m vs w' => ∃ i : Nat, vs = [.int .i64 i] ∧ i ≤ xs.length ∧ m = xs.length - i ∧ c ∉ xs.take i ∧ w = w') (xs.length) ?_ ?_
  · exact ⟨0, rfl, by omega, by omega, by simp, rfl⟩
  try clear H
  rintro n1 vs1 wL1 σ ⟨i, rfl, hi, rfl, hno, rfl⟩
  simp only [setL, keepE, upd_get, ev, Nat.reduceEqDiff, ↓reduceIte]
  refine CW.seq (fun K4 h4 => ?_)
  refine CW.seq (fun K5 h5 => ?_)
  refine CW.region ?_
  refine r_move rfl ?_
  refine r_move rfl ?_
  first
    | refine r_lenV rfl Try.underlying22 (by simp only [upd_get, ev, Nat.reduceEqDiff, ↓reduceIte] <;> rfl) (by first | assumption | exact SH.rsR H (by (repeat first | exact At.here | apply At.there); done) | exact SH.rsO H (by (repeat first | exact At.here | apply At.there); done) | exact (Rs.nil : Rs Non _ _ _)) ?_
    | refine r_len rfl Try.underlying22 rfl ?_
  refine r_lss rfl rfl rfl ?_
  refine LW.nil ?_
  refine thenE_norm (h5 _ _ ?_); clear h5; try clear K5
  refine CW.cond rfl (fun hc1 => ?_) (fun hc1 => ?_)
  · try simp only [decide_eq_true_eq, decide_eq_false_iff_not, Bool.and_eq_true, Bool.or_eq_true, Bool.and_eq_false_iff, Bool.or_eq_false_iff, Bool.not_eq_true', Bool.not_eq_false', beq_iff_eq, bne_iff_ne, ne_eq, Decidable.not_not] at hc1
    refine CW.skip ?_
    refine thenE_norm (h4 _ _ ?_); clear h4; try clear K4
    refine CW.seq (fun K6 h6 => ?_)
    refine CW.block ?_
    refine CW.seq (fun K7 h7 => ?_)
    obtain ⟨x, hx⟩ := get_of_lt (show i < xs.length by omega)
    refine CW.region ?_
    refine r_move rfl ?_
    refine r_move rfl ?_
    refine r_indexAddrV rfl Try.underlying22 (by simp only [upd_get, ev, Nat.reduceEqDiff, ↓reduceIte] <;> rfl) rfl (by first | assumption | exact SH.rsR H (by (repeat first | exact At.here | apply At.there); done) | exact SH.rsO H (by (repeat first | exact At.here | apply At.there); done) | exact (Rs.nil : Rs Non _ _ _)) (by exact Try.sizeOf3) (by omega) (by omega) ?_
    refine r_load rfl Try.isAgg3 rfl (by first | exact Rs.cell (by first | assumption | exact SH.rsR H (by (repeat first | exact At.here | apply At.there); done) | exact SH.rsO H (by (repeat first | exact At.here | apply At.there); done) | exact (Rs.nil : Rs Non _ _ _)) (by assumption) (by rfl) | exact Rs.cell0 (by first | assumption | exact SH.rsR H (by (repeat first | exact At.here | apply At.there); done) | exact SH.rsO H (by (repeat first | exact At.here | apply At.there); done) | exact (Rs.nil : Rs Non _ _ _)) (by assumption) (by rfl) | assumption) ?_
    refine r_move rfl ?_
    refine r_eql rfl rfl rfl ?_
    refine LW.nil ?_
    refine thenE_norm ?_
    refine cut (K := K7) [0, 1, 5, 17] (fun σ => ?_)
    simp only [setL, keepE, upd_get, ev, Nat.reduceEqDiff, ↓reduceIte]
    refine h7 _ _ ?_; clear h7; try clear K7
    refine CW.cond rfl (fun hc2 => ?_) (fun hc2 => ?_)
    · try simp only [decide_eq_true_eq, decide_eq_false_iff_not, Bool.and_eq_true, Bool.or_eq_true, Bool.and_eq_false_iff, Bool.or_eq_false_iff, Bool.not_eq_true', Bool.not_eq_false', beq_iff_eq, bne_iff_ne, ne_eq, Decidable.not_not] at hc2
      refine CW.seq (fun K8 h8 => ?_)
      refine CW.region ?_
      refine r_assign rfl ?_
      refine LW.nil ?_
      refine thenE_norm (h8 _ _ ?_); clear h8; try clear K8
      refine CW.ret (blockE_ret (thenE_ret (thenE_ret (blockE_ret (thenE_ret (ret1 Try.results19 (by simp only [upd_get, ev, Nat.reduceEqDiff, ↓reduceIte]; rfl) ?_))))))
      have h := idx_at (hc2 ▸ hx) hno
      exact ⟨by rw [decide_eq_true h.1], rfl⟩
    · try simp only [decide_eq_true_eq, decide_eq_false_iff_not, Bool.and_eq_true, Bool.or_eq_true, Bool.and_eq_false_iff, Bool.or_eq_false_iff, Bool.not_eq_true', Bool.not_eq_false', beq_iff_eq, bne_iff_ne, ne_eq, Decidable.not_not] at hc2
      refine CW.skip ?_
      refine blockE_norm ?_
      refine thenE_norm (h6 _ _ ?_); clear h6; try clear K6
      refine CW.region ?_
      refine r_move rfl ?_
      refine r_add rfl rfl rfl (wr_i64 (by omega) (by omega)) ?_
      refine r_assign rfl ?_
      refine LW.nil ?_
      refine thenE_norm ⟨rfl, ?_⟩
      exact ⟨_, by omega, i + 1, rfl, by omega, rfl, notin_snoc hx hno hc2, rfl⟩
  · try simp only [decide_eq_true_eq, decide_eq_false_iff_not, Bool.and_eq_true, Bool.or_eq_true, Bool.and_eq_false_iff, Bool.or_eq_false_iff, Bool.not_eq_true', Bool.not_eq_false', beq_iff_eq, bne_iff_ne, ne_eq, Decidable.not_not] at hc1
    refine CW.exit (thenE_exit (thenE_exit (blockE_hit ?_)))
    refine thenE_norm (h2 _ _ ?_); clear h2; try clear K2
    refine CW.seq (fun K9 h9 => ?_)
    refine CW.region ?_
    refine r_assign rfl ?_
    refine LW.nil ?_
    refine thenE_norm (h9 _ _ ?_); clear h9; try clear K9
    refine CW.ret (ret1 Try.results19 (by simp only [upd_get, ev, Nat.reduceEqDiff, ↓reduceIte]; rfl) ?_)
    obtain rfl : i = xs.length := by omega
    rw [List.take_length] at hno
    exact ⟨by rw [decide_eq_false hno], rfl⟩
theorem SameInts_c {F G : Nat → Prop} {a b : Value} {xs ys : List Int} (w : World) (ha : Rs F w a xs) (hb : Rs G w b ys) :
    Calls Try.prog 24 #[a, b] w fun e w' => e = .returned (.bool (decide (xs = ys))) ∧ Ext0 w w' := by
  have h63 := ha.len63
  have H := ((SH.start w).arg ha).arg hb
  refine calls_of_CW Try.func24 rfl Try.ntmps24 (Nat.le_of_ble_eq_true rfl) ?_
  simp only [argE, argFrom, Nat.reduceAdd]
  refine CW.seq (fun K1 h1 => ?_)
  refine CW.region ?_
  refine r_assign rfl ?_
  refine LW.nil ?_
  refine thenE_norm (h1 _ _ ?_); clear h1; try clear K1
  refine CW.seq (fun K2 h2 => ?_)
  refine CW.seq (fun K3 h3 => ?_)
  refine CW.region ?_
  refine r_move rfl ?_
  first
    | refine r_lenV rfl Try.underlying22 (by simp only [upd_get, ev, Nat.reduceEqDiff, ↓reduceIte] <;> rfl) (by first | assumption | exact SH.rsR H (by (repeat first | exact At.here | apply At.there); done) | exact SH.rsO H (by (repeat first | exact At.here | apply At.there); done) | exact (Rs.nil : Rs Non _ _ _)) ?_
    | refine r_len rfl Try.underlying22 rfl ?_
  refine r_move rfl ?_
  first
    | refine r_lenV rfl Try.underlying22 (by simp only [upd_get, ev, Nat.reduceEqDiff, ↓reduceIte] <;> rfl) (by first | assumption | exact SH.rsR H (by (repeat first | exact At.here | apply At.there); done) | exact SH.rsO H (by (repeat first | exact At.here | apply At.there); done) | exact (Rs.nil : Rs Non _ _ _)) ?_
    | refine r_len rfl Try.underlying22 rfl ?_
  refine r_neq rfl rfl rfl ?_
  refine LW.nil ?_
  refine thenE_norm (h3 _ _ ?_); clear h3; try clear K3
  refine CW.cond rfl (fun hc1 => ?_) (fun hc1 => ?_)
  · try simp only [decide_eq_true_eq, decide_eq_false_iff_not, Bool.and_eq_true, Bool.or_eq_true, Bool.and_eq_false_iff, Bool.or_eq_false_iff, Bool.not_eq_true', Bool.not_eq_false', beq_iff_eq, bne_iff_ne, ne_eq, Decidable.not_not] at hc1
    refine CW.seq (fun K4 h4 => ?_)
    refine CW.region ?_
    refine r_assign rfl ?_
    refine LW.nil ?_
    refine thenE_norm (h4 _ _ ?_); clear h4; try clear K4
    refine CW.ret (thenE_ret (ret1 Try.results24 (by simp only [upd_get, ev, Nat.reduceEqDiff, ↓reduceIte]; rfl) ?_))
    exact ⟨by rw [decide_eq_false (fun e => by rw [e] at hc1; simp at hc1)], Ext.refl _ _⟩
  · try simp only [decide_eq_true_eq, decide_eq_false_iff_not, Bool.and_eq_true, Bool.or_eq_true, Bool.and_eq_false_iff, Bool.or_eq_false_iff, Bool.not_eq_true', Bool.not_eq_false', beq_iff_eq, bne_iff_ne, ne_eq, Decidable.not_not] at hc1
    refine CW.skip ?_
    refine thenE_norm (h2 _ _ ?_); clear h2; try clear K2
    refine CW.seq (fun K5 h5 => ?_)
    refine CW.seq (fun K6 h6 => ?_)
    refine CW.region ?_
    refine r_assign rfl ?_
    refine LW.nil ?_
    refine thenE_norm (h6 _ _ ?_); clear h6; try clear K6
    refine CW.block ?_
    refine CW.loopR [0, 1] [5] (fun m vs w' => ∃ i : Nat, vs = [.int .i64 i] ∧ i ≤ xs.length ∧ m = xs.length - i ∧ xs.take i = ys.take i ∧ SH Non Any w w' [.R (Old w) a xs, .R (Old w) b ys]) (xs.length) ?_ ?_
    · exact ⟨0, rfl, by omega, by omega, by simp, H⟩
    try clear H
    rintro n1 vs1 wL1 σ ⟨i, rfl, hi, rfl, hsame, H⟩
    simp only [setL, keepE, upd_get, ev, Nat.reduceEqDiff, ↓reduceIte]
    refine CW.seq (fun K7 h7 => ?_)
    refine CW.seq (fun K8 h8 => ?_)
    refine CW.region ?_
    refine r_move rfl ?_
    refine r_move rfl ?_
    first
      | refine r_lenV rfl Try.underlying22 (by simp only [upd_get, ev, Nat.reduceEqDiff, ↓reduceIte] <;> rfl) (by first | assumption | exact SH.rsR H (by (repeat first | exact At.here | apply At.there); done) | exact SH.rsO H (by (repeat first | exact At.here | apply At.there); done) | exact (Rs.nil : Rs Non _ _ _)) ?_
      | refine r_len rfl Try.underlying22 rfl ?_
    refine r_lss rfl rfl rfl ?_
    refine LW.nil ?_
    refine thenE_norm (h8 _ _ ?_); clear h8; try clear K8
    refine CW.cond rfl (fun hc2 => ?_) (fun hc2 => ?_)
    · try simp only [decide_eq_true_eq, decide_eq_false_iff_not, Bool.and_eq_true, Bool.or_eq_true, Bool.and_eq_false_iff, Bool.or_eq_false_iff, Bool.not_eq_true', Bool.not_eq_false', beq_iff_eq, bne_iff_ne, ne_eq, Decidable.not_not] at hc2
      refine CW.skip ?_
      refine thenE_norm (h7 _ _ ?_); clear h7; try clear K7
      refine CW.seq (fun K9 h9 => ?_)
      refine CW.block ?_
      refine CW.seq (fun K10 h10 => ?_)
      obtain ⟨x, hx⟩ := get_of_lt (show i < xs.length by omega)
      obtain ⟨y, hy⟩ := get_of_lt (show i < ys.length by omega)
      refine CW.drawH [] H (List.Sublist.refl _) (by kernel_rfl) rfl ?_
      clear H
      intro w6d H
      refine DL.take (i := 0) [] rfl (by kernel_rfl) (by kernel_rfl) (by kernel_rfl) (by kernel_rfl) rfl rfl (fun u H => x_move ) H ?_
      refine DL.take (i := 1) [] rfl (by kernel_rfl) (by kernel_rfl) (by kernel_rfl) (by kernel_rfl) rfl rfl (fun u H => x_move ) H ?_
      refine DL.take (i := 2) [] rfl (by kernel_rfl) (by kernel_rfl) (by kernel_rfl) (by kernel_rfl) rfl rfl (fun u H => x_indexAddrV Try.underlying22 (by simp only [upd_get, ev, Nat.reduceEqDiff, ↓reduceIte] <;> rfl) rfl (by first | assumption | exact SH.rsR H (by (repeat first | exact At.here | apply At.there); done) | exact SH.rsO H (by (repeat first | exact At.here | apply At.there); done) | exact (Rs.nil : Rs Non _ _ _)) (by exact Try.sizeOf3) (by omega) (by omega)) H ?_
      refine DL.take (i := 3) [] rfl (by kernel_rfl) (by kernel_rfl) (by kernel_rfl) (by kernel_rfl) rfl rfl (fun u H => x_load Try.isAgg3 rfl (by first | exact Rs.cell (by first | assumption | exact SH.rsR H (by (repeat first | exact At.here | apply At.there); done) | exact SH.rsO H (by (repeat first | exact At.here | apply At.there); done) | exact (Rs.nil : Rs Non _ _ _)) (by assumption) (by rfl) | exact Rs.cell0 (by first | assumption | exact SH.rsR H (by (repeat first | exact At.here | apply At.there); done) | exact SH.rsO H (by (repeat first | exact At.here | apply At.there); done) | exact (Rs.nil : Rs Non _ _ _)) (by assumption) (by rfl) | assumption)) H ?_
      refine DL.take (i := 4) [] rfl (by kernel_rfl) (by kernel_rfl) (by kernel_rfl) (by kernel_rfl) rfl rfl (fun u H => x_move ) H ?_
      refine DL.take (i := 5) [] rfl (by kernel_rfl) (by kernel_rfl) (by kernel_rfl) (by kernel_rfl) rfl rfl (fun u H => x_move ) H ?_
      refine DL.take (i := 6) [] rfl (by kernel_rfl) (by kernel_rfl) (by kernel_rfl) (by kernel_rfl) rfl rfl (fun u H => x_indexAddrV Try.underlying22 (by simp only [upd_get, ev, Nat.reduceEqDiff, ↓reduceIte] <;> rfl) rfl (by first | assumption | exact SH.rsR H (by (repeat first | exact At.here | apply At.there); done) | exact SH.rsO H (by (repeat first | exact At.here | apply At.there); done) | exact (Rs.nil : Rs Non _ _ _)) (by exact Try.sizeOf3) (by omega) (by omega)) H ?_
      refine DL.take (i := 7) [] rfl (by kernel_rfl) (by kernel_rfl) (by kernel_rfl) (by kernel_rfl) rfl rfl (fun u H => x_load Try.isAgg3 rfl (by first | exact Rs.cell (by first | assumption | exact SH.rsR H (by (repeat first | exact At.here | apply At.there); done) | exact SH.rsO H (by (repeat first | exact At.here | apply At.there); done) | exact (Rs.nil : Rs Non _ _ _)) (by assumption) (by rfl) | exact Rs.cell0 (by first | assumption | exact SH.rsR H (by (repeat first | exact At.here | apply At.there); done) | exact SH.rsO H (by (repeat first | exact At.here | apply At.there); done) | exact (Rs.nil : Rs Non _ _ _)) (by assumption) (by rfl) | assumption)) H ?_
      refine DL.take (i := 8) [] rfl (by kernel_rfl) (by kernel_rfl) (by kernel_rfl) (by kernel_rfl) rfl rfl (fun u H => x_neq rfl rfl) H ?_
      refine DL.done (by kernel_rfl) ?_
      refine thenE_norm ?_
      refine cut (K := K10) [0, 1, 5, 25] (fun σ => ?_)
      simp only [setL, keepE, upd_get, ev, Nat.reduceEqDiff, ↓reduceIte]
      refine h10 _ _ ?_; clear h10; try clear K10
      refine CW.cond rfl (fun hc3 => ?_) (fun hc3 => ?_)
      · try simp only [decide_eq_true_eq, decide_eq_false_iff_not, Bool.and_eq_true, Bool.or_eq_true, Bool.and_eq_false_iff, Bool.or_eq_false_iff, Bool.not_eq_true', Bool.not_eq_false', beq_iff_eq, bne_iff_ne, ne_eq, Decidable.not_not] at hc3
        refine CW.seq (fun K11 h11 => ?_)
        refine CW.region ?_
        refine r_assign rfl ?_
        refine LW.nil ?_
        refine thenE_norm (h11 _ _ ?_); clear h11; try clear K11
        refine CW.ret (blockE_ret (thenE_ret (thenE_ret (blockE_ret (thenE_ret (ret1 Try.results24 (by simp only [upd_get, ev, Nat.reduceEqDiff, ↓reduceIte]; rfl) ?_))))))
        exact ⟨by rw [decide_eq_false (fun e => hc3 (by rw [e, hy] at hx; cases hx; rfl))], H.ext⟩
      · try simp only [decide_eq_true_eq, decide_eq_false_iff_not, Bool.and_eq_true, Bool.or_eq_true, Bool.and_eq_false_iff, Bool.or_eq_false_iff, Bool.not_eq_true', Bool.not_eq_false', beq_iff_eq, bne_iff_ne, ne_eq, Decidable.not_not] at hc3
        refine CW.skip ?_
        refine blockE_norm ?_
        refine thenE_norm (h9 _ _ ?_); clear h9; try clear K9
        refine CW.region ?_
        refine r_move rfl ?_
        refine r_add rfl rfl rfl (wr_i64 (by omega) (by omega)) ?_
        refine r_assign rfl ?_
        refine LW.nil ?_
        refine thenE_norm ⟨rfl, ?_⟩
        exact ⟨_, by omega, i + 1, rfl, by omega, rfl, by rw [V.take_snoc hx, V.take_snoc hy, hsame, hc3], H⟩
    · try simp only [decide_eq_true_eq, decide_eq_false_iff_not, Bool.and_eq_true, Bool.or_eq_true, Bool.and_eq_false_iff, Bool.or_eq_false_iff, Bool.not_eq_true', Bool.not_eq_false', beq_iff_eq, bne_iff_ne, ne_eq, Decidable.not_not] at hc2
      refine CW.exit (thenE_exit (thenE_exit (blockE_hit ?_)))
      refine thenE_norm (h5 _ _ ?_); clear h5; try clear K5
      refine CW.seq (fun K12 h12 => ?_)
      refine CW.region ?_
      refine r_assign rfl ?_
      refine LW.nil ?_
      refine thenE_norm (h12 _ _ ?_); clear h12; try clear K12
      refine CW.ret (ret1 Try.results24 (by simp only [upd_get, ev, Nat.reduceEqDiff, ↓reduceIte]; rfl) ?_)
      obtain rfl : i = xs.length := by omega
      rw [List.take_length, show xs.length = ys.length from by omega, List.take_length] at hsame
      exact ⟨by rw [decide_eq_true hsame], H.ext⟩
theorem Clone_c {F : Nat → Prop} {v : Value} {xs : List Int} (w : World) (hv : Rs F w v xs) (hn : xs.length ≤ 1000000) :
    Calls Try.prog 51 #[v] w fun e w' => ∃ v' g, e = .returned v' ∧ SH Non Non w w' [.O 3 v' xs g] := by
  have H := (SH.start w).arg hv
  refine calls_of_CW Try.func51 rfl Try.ntmps51 (Nat.le_of_ble_eq_true rfl) ?_
  simp only [argE, argFrom, Nat.reduceAdd]
  refine CW.seq (fun K1 h1 => ?_)
  refine CW.region ?_
  refine r_assign rfl ?_
  refine LW.nil ?_
  refine thenE_norm (h1 _ _ ?_); clear h1; try clear K1
  refine CW.seq (fun K2 h2 => ?_)
  refine CW.seq (fun K3 h3 => ?_)
  refine CW.region ?_
  refine r_move rfl ?_
  refine r_eqlV rfl Try.underlying22 (by simp only [upd_get, ev, Nat.reduceEqDiff, ↓reduceIte] <;> rfl) rfl (by first | assumption | exact SH.rsR H (by (repeat first | exact At.here | apply At.there); done) | exact SH.rsO H (by (repeat first | exact At.here | apply At.there); done) | exact (Rs.nil : Rs Non _ _ _)) ?_
  intro c1_1 hn1_1
  refine LW.nil ?_
  refine thenE_norm (h3 _ _ ?_); clear h3; try clear K3
  refine CW.cond rfl (fun hc1 => ?_) (fun hc1 => ?_)
  · try simp only [decide_eq_true_eq, decide_eq_false_iff_not, Bool.and_eq_true, Bool.or_eq_true, Bool.and_eq_false_iff, Bool.or_eq_false_iff, Bool.not_eq_true', Bool.not_eq_false', beq_iff_eq, bne_iff_ne, ne_eq, Decidable.not_not] at hc1
    refine CW.seq (fun K4 h4 => ?_)
    refine CW.region ?_
    refine r_assign rfl ?_
    refine LW.nil ?_
    refine thenE_norm (h4 _ _ ?_); clear h4; try clear K4
    refine CW.ret (thenE_ret (ret1 Try.results51 (by simp only [upd_get, ev, Nat.reduceEqDiff, ↓reduceIte]; rfl) ?_))
    obtain rfl := hn1_1 hc1
    exact ⟨_, _, rfl, SH.give (H.addO (α := Int) 3) (by repeat first | exact List.Sublist.refl _ | exact List.nil_sublist _ | apply List.Sublist.cons_cons | apply List.Sublist.cons) ⟨trivial, trivial⟩⟩
  · try simp only [decide_eq_true_eq, decide_eq_false_iff_not, Bool.and_eq_true, Bool.or_eq_true, Bool.and_eq_false_iff, Bool.or_eq_false_iff, Bool.not_eq_true', Bool.not_eq_false', beq_iff_eq, bne_iff_ne, ne_eq, Decidable.not_not] at hc1
    refine CW.skip ?_
    refine thenE_norm (h2 _ _ ?_); clear h2; try clear K2
    refine CW.seq (fun K5 h5 => ?_)
    refine CW.region ?_
    refine r_buildSlice rfl Try.underlying22 Try.sizeOf3 Try.zeroValue3 rfl rfl rfl (by simp only [List.map_cons, List.map_nil, List.toList_toArray, List.foldl_cons, List.foldl_nil, List.replicate_succ, List.replicate_zero, List.set_cons_zero, List.set_cons_succ, upd_get, ev, Nat.reduceEqDiff, ↓reduceIte] <;> rfl) ?_
    intro b3_0 w3_0 hb3_0 hs3_0 hE3_0 hB3_0
    replace H := SH.call H (SH.fromB hE3_0 hb3_0 hs3_0 hB3_0)
    clear hb3_0 hs3_0 hE3_0 hB3_0
    try dsimp only [replC, List.cons_append, List.nil_append, List.append_nil, agg, cellsL, Value.cells, List.toList_toArray, List.set_cons_zero, List.set_cons_succ, spliceL, List.take_succ_cons, List.take_zero, List.drop_succ_cons, List.drop_zero, List.length_cons, List.length_nil, Nat.reduceAdd, Row.cells] at H
    replace H := SH.row (b := b3_0) (xs := ([] : List Int)) (n := 0) (cap := 0) H (by (repeat first | exact At.here | apply At.there); done) (by rfl) (by intro x hx; first | rfl | (simp at hx; done) | (simp only [List.mem_cons, List.not_mem_nil, or_false] at hx; rcases hx with rfl <;> first | rfl | exact (by first | rfl | assumption | exact Rs.oneC (by first | assumption | exact SH.rsR H (by (repeat first | exact At.here | apply At.there); done) | exact SH.rsO H (by (repeat first | exact At.here | apply At.there); done) | exact (Rs.nil : Rs Non _ _ _)) | (simp only [List.all_cons, List.all_nil, Bool.and_true, Bool.and_eq_true, Row.cells]; (repeat' constructor) <;> first | rfl | assumption | exact Rs.oneC (by first | assumption | exact SH.rsR H (by (repeat first | exact At.here | apply At.there); done) | exact SH.rsO H (by (repeat first | exact At.here | apply At.there); done) | exact (Rs.nil : Rs Non _ _ _)))))) (by rfl) rfl (by decide)
    try dsimp only [replC, List.cons_append, List.nil_append, List.append_nil, agg, cellsL, Value.cells, List.toList_toArray, List.set_cons_zero, List.set_cons_succ, spliceL, List.take_succ_cons, List.take_zero, List.drop_succ_cons, List.drop_zero, List.length_cons, List.length_nil, Nat.reduceAdd, Row.cells] at H
    refine r_move rfl ?_
    first
      | refine s_append H rfl Try.underlying22 Try.underlying22 Try.type3 rfl (by simp only [upd_get, ev, Nat.reduceEqDiff, ↓reduceIte] <;> rfl) (by simp only [upd_get, ev, Nat.reduceEqDiff, ↓reduceIte] <;> rfl) (by (repeat first | exact At.here | apply At.there); done) (by first | assumption | exact SH.rsR H (by (repeat first | exact At.here | apply At.there); done) | exact SH.rsO H (by (repeat first | exact At.here | apply At.there); done) | exact (Rs.nil : Rs Non _ _ _)) (by rfl) (by rfl) (by first | omega | (simp only [Try.t3, List.length_append, List.length_cons, List.length_nil, List.length_map, maxLen]; omega) | (simp [Try.t3, maxLen]; omega)) (by first | omega | (simp only [Try.t3, List.length_append, List.length_cons, List.length_nil, List.length_map, maxLen]; omega) | (simp [Try.t3, maxLen]; omega)) ?_
      | refine s_appendNil H rfl Try.underlying22 Try.underlying22 Try.type3 rfl rfl (by simp only [upd_get, ev, Nat.reduceEqDiff, ↓reduceIte] <;> rfl) (by first | assumption | exact SH.rsR H (by (repeat first | exact At.here | apply At.there); done) | exact SH.rsO H (by (repeat first | exact At.here | apply At.there); done) | exact (Rs.nil : Rs Non _ _ _)) (by rfl) (by rfl) (by first | omega | (simp only [Try.t3, List.length_append, List.length_cons, List.length_nil, List.length_map, maxLen]; omega) | (simp [Try.t3, maxLen]; omega)) ?_
    clear H
    intro v3_2 w3_2 g3_2 H hN3_2
    try dsimp only [replC, List.cons_append, List.nil_append, List.append_nil] at H
    refine r_assign rfl ?_
    refine LW.nil ?_
    refine thenE_norm (h5 _ _ ?_); clear h5; try clear K5
    refine CW.ret (ret1 Try.results51 (by simp only [upd_get, ev, Nat.reduceEqDiff, ↓reduceIte]; rfl) ?_)
    exact ⟨_, _, rfl, (SH.give H (by repeat first | exact List.Sublist.refl _ | exact List.nil_sublist _ | apply List.Sublist.cons_cons | apply List.Sublist.cons) (by repeat first | exact trivial | refine ⟨trivial, ?_⟩))⟩
end Go.Proofs.Ytaggdlbjgjagbaa
