/-
  The walks of layer 6's functions, the fourth part: find, renew, close, due.
-/
import Derived.Test.YtcmnhneigojpoaaVSsC
namespace Go.Proofs.Ytcmnhneigojpoaa
set_option linter.unusedSimpArgs false
set_option linter.unusedVariables false
set_option maxRecDepth 20000
open Go.V Go.RowKit Go.ChangeShapes Go.WideShapes

def isCl (n : Int) : Bool := decide (0 ≤ n) && decide (n < 8)
theorem isClient_c (n : Int) (w : World) : Calls Try.prog 45 #[.int .i64 n] w fun e w' => e = .returned (.bool (isCl n)) ∧ w = w' := by
  refine calls_of_CW Try.func45 rfl Try.ntmps45 (Nat.le_of_ble_eq_true rfl) ?_
  simp only [argE, argFrom, Nat.reduceAdd]
  refine CW.seq (fun K1 h1 => ?_)
  refine CW.region ?_
  refine r_assign rfl ?_
  refine LW.nil ?_
  refine thenE_norm (h1 _ _ ?_); clear h1; try clear K1
  refine CW.seq (fun K2 h2 => ?_)
  refine CW.region ?_
  refine r_move rfl ?_
  refine r_geq rfl rfl rfl ?_
  refine r_move rfl ?_
  refine' LW.grpAnd (n := 3) (ts := []) (d := 8) (tj := 5) rfl (fun hg1_3 => ?_) (fun hg1_3 => ?_) (fun σ => ?_)
  rotate_left
  · simp only [List.take_succ_cons, List.take_zero]
    have hg1_3P := hg1_3
    try simp only [decide_eq_true_eq, decide_eq_false_iff_not, Bool.and_eq_true, Bool.or_eq_true, Bool.and_eq_false_iff, Bool.or_eq_false_iff, Bool.not_eq_true', Bool.not_eq_false', beq_iff_eq, bne_iff_ne] at hg1_3P
    refine LW.want rfl rfl hg1_3 ?_
    refine r_move rfl ?_
    refine LW.want rfl rfl hg1_3 ?_
    refine r_lss rfl rfl rfl ?_
    refine r_pickT rfl rfl hg1_3 ?_
    refine LW.nil (thenE_norm ⟨rfl, rfl, rfl⟩)
  · simp only [List.take_succ_cons, List.take_zero]
    refine LW.skip rfl (fun _ e => by cases e; decide) rfl hg1_3 ?_
    refine LW.skip rfl (fun _ e => by cases e; decide) rfl hg1_3 ?_
    refine r_pickF rfl rfl hg1_3 ?_
    refine LW.nil (thenE_norm ⟨rfl, rfl, rfl⟩)
  simp only [setL, keepE, upd_get, ev, Nat.reduceEqDiff, ↓reduceIte]; simp only [List.drop_succ_cons, List.drop_zero]
  refine r_assign rfl ?_
  refine LW.nil ?_
  refine thenE_norm (h2 _ _ ?_); clear h2; try clear K2
  refine CW.ret (ret1 Try.results45 (by simp only [upd_get, ev, Nat.reduceEqDiff, ↓reduceIte]; rfl) ?_)
  exact ⟨rfl, rfl⟩
theorem clientR_c (n : Int) (w : World) : Calls Try.prog 48 #[.int .i64 n] w fun e w' => e = .returned (.bool (isCl n)) ∧ w = w' := by
  refine calls_of_CW Try.func48 rfl Try.ntmps48 (Nat.le_of_ble_eq_true rfl) ?_
  simp only [argE, argFrom, Nat.reduceAdd]
  refine CW.seq (fun K1 h1 => ?_)
  refine CW.region ?_
  refine r_assign rfl ?_
  refine LW.nil ?_
  refine thenE_norm (h1 _ _ ?_); clear h1; try clear K1
  refine CW.seq (fun K2 h2 => ?_)
  refine CW.region ?_
  refine r_move rfl ?_
  refine r_geq rfl rfl rfl ?_
  refine r_move rfl ?_
  refine' LW.grpAnd (n := 3) (ts := []) (d := 8) (tj := 5) rfl (fun hg1_3 => ?_) (fun hg1_3 => ?_) (fun σ => ?_)
  rotate_left
  · simp only [List.take_succ_cons, List.take_zero]
    have hg1_3P := hg1_3
    try simp only [decide_eq_true_eq, decide_eq_false_iff_not, Bool.and_eq_true, Bool.or_eq_true, Bool.and_eq_false_iff, Bool.or_eq_false_iff, Bool.not_eq_true', Bool.not_eq_false', beq_iff_eq, bne_iff_ne] at hg1_3P
    refine LW.want rfl rfl hg1_3 ?_
    refine r_move rfl ?_
    refine LW.want rfl rfl hg1_3 ?_
    refine r_lss rfl rfl rfl ?_
    refine r_pickT rfl rfl hg1_3 ?_
    refine LW.nil (thenE_norm ⟨rfl, rfl, rfl⟩)
  · simp only [List.take_succ_cons, List.take_zero]
    refine LW.skip rfl (fun _ e => by cases e; decide) rfl hg1_3 ?_
    refine LW.skip rfl (fun _ e => by cases e; decide) rfl hg1_3 ?_
    refine r_pickF rfl rfl hg1_3 ?_
    refine LW.nil (thenE_norm ⟨rfl, rfl, rfl⟩)
  simp only [setL, keepE, upd_get, ev, Nat.reduceEqDiff, ↓reduceIte]; simp only [List.drop_succ_cons, List.drop_zero]
  refine r_assign rfl ?_
  refine LW.nil ?_
  refine thenE_norm (h2 _ _ ?_); clear h2; try clear K2
  refine CW.ret (ret1 Try.results48 (by simp only [upd_get, ev, Nat.reduceEqDiff, ↓reduceIte]; rfl) ?_)
  exact ⟨rfl, rfl⟩
/-- Where a client's session stands, if it has one. -/
theorem at_in {l : List Ses} {n : Int} (h : inS l n = true) : ∃ s, l[atS l n]? = some s ∧ s.client = n := by
  rw [inS, hitB] at h
  rw [atS]
  cases hx : l[lowB (fun s : Ses => cmpM s.client n) l]? with
  | none => rw [hx] at h; cases h
  | some s => rw [hx] at h; exact ⟨s, rfl, cmpM_zero.1 (by simpa using h)⟩
def findS (l : List Ses) (n : Int) : Ses × Bool := match l.find? (fun s => decide (s.client = n)) with
  | some s => (s, true)
  | none => (⟨0, 0, 0⟩, false)
theorem find_first {α : Type} {p : α → Bool} {l : List α} {i : Nat} {x : α} (hx : l[i]? = some x) (h : (l.take i).find? p = none) (hp : p x = true) : l.find? p = some x := by
  have hl := lt_of_get hx
  have e : l = l.take i ++ x :: l.drop (i + 1) := by
    have h1 : l[i] = x := by rw [List.getElem?_eq_getElem hl] at hx; exact Option.some.inj hx
    rw [← h1, List.getElem_cons_drop, List.take_append_drop]
  rw [e, List.find?_append, h]
  simp [hp]
theorem find_snoc {α : Type} {p : α → Bool} {l : List α} {i : Nat} {x : α} (hx : l[i]? = some x) (h : (l.take i).find? p = none) (hp : p x = false) : (l.take (i + 1)).find? p = none := by
  rw [V.take_snoc hx, List.find?_append, h]
  simp [hp]
theorem FindR_c {F : Nat → Prop} {v : Value} {l : List Ses} (n : Int) (w : World) (hv : Rs F w v l) :
    Calls Try.prog 38 #[v, .int .i64 n] w fun e w' => e = .returned (.tuple #[agg (findS l n).1, .bool (findS l n).2]) ∧ Ext0 w w' := by
  have H := (SH.start w).arg hv
  have h63 := hv.len63
  refine calls_of_CW Try.func38 rfl Try.ntmps38 (Nat.le_of_ble_eq_true rfl) ?_
  simp only [argE, argFrom, Nat.reduceAdd]
  refine CW.seq (fun K1 h1 => ?_)
  refine CW.region ?_
  refine s_alloc (cs := [.int .i64 0, .int .i64 0, .int .i64 0]) H rfl Try.zeroValue52 rfl ?_
  clear H
  intro b0_0 w0_0 H
  try dsimp only [replC, List.cons_append, List.nil_append, List.append_nil, agg, cellsL, Value.cells, List.toList_toArray, List.set_cons_zero, List.set_cons_succ, spliceL, List.take_succ_cons, List.take_zero, List.drop_succ_cons, List.drop_zero, List.length_cons, List.length_nil, Nat.reduceAdd, Row.cells, Ses.L] at H
  refine r_assign rfl ?_
  refine LW.nil ?_
  refine thenE_norm (h1 _ _ ?_); clear h1; try clear K1
  refine CW.seq (fun K2 h2 => ?_)
  refine CW.seq (fun K3 h3 => ?_)
  refine CW.region ?_
  refine r_assign rfl ?_
  refine LW.nil ?_
  refine thenE_norm (h3 _ _ ?_); clear h3; try clear K3
  refine CW.block ?_
  refine CW.loopR [0, 1, 4] [6] (fun m vs w' => ∃ i : Nat, vs = [.int .i64 i] ∧ i ≤ l.length ∧ m = l.length - i ∧ (l.take i).find? (fun s => decide (s.client = n)) = none ∧ SH Non Any w w' [.R (Old w) v l, .B b0_0 52 [.int .i64 0, .int .i64 0, .int .i64 0]]) (l.length) ?_ ?_
  · exact ⟨0, rfl, by omega, by omega, by simp, H⟩
  try clear H
  rintro n1 vs1 wL1 σ ⟨i, rfl, hi, rfl, hno, H⟩
  simp only [setL, keepE, upd_get, ev, Nat.reduceEqDiff, ↓reduceIte]
  refine CW.seq (fun K4 h4 => ?_)
  refine CW.seq (fun K5 h5 => ?_)
  refine CW.region ?_
  refine r_move rfl ?_
  refine r_move rfl ?_
  first
    | refine r_lenV rfl Try.underlying48 (by simp only [upd_get, ev, Nat.reduceEqDiff, ↓reduceIte] <;> rfl) (by first | assumption | exact SH.rsR H (by (repeat first | exact At.here | apply At.there); done) | exact SH.rsO H (by (repeat first | exact At.here | apply At.there); done) | exact Rs.toH (by first | assumption | exact SH.rsR H (by (repeat first | exact At.here | apply At.there); done) | exact SH.rsO H (by (repeat first | exact At.here | apply At.there); done)) (by omega) | exact Rs.toL (by first | assumption | exact SH.rsR H (by (repeat first | exact At.here | apply At.there); done) | exact SH.rsO H (by (repeat first | exact At.here | apply At.there); done)) (by omega) | exact Rs.toLH (by first | assumption | exact SH.rsR H (by (repeat first | exact At.here | apply At.there); done) | exact SH.rsO H (by (repeat first | exact At.here | apply At.there); done)) (by omega) (by omega) | exact (Rs.nil : Rs Non _ _ _)) ?_
    | refine r_len rfl Try.underlying48 rfl ?_
  refine r_lss rfl rfl rfl ?_
  refine LW.nil ?_
  refine thenE_norm (h5 _ _ ?_); clear h5; try clear K5
  refine CW.cond rfl (fun hc1 => ?_) (fun hc1 => ?_)
  · try simp only [decide_eq_true_eq, decide_eq_false_iff_not, Bool.and_eq_true, Bool.or_eq_true, Bool.and_eq_false_iff, Bool.or_eq_false_iff, Bool.not_eq_true', Bool.not_eq_false', beq_iff_eq, bne_iff_ne, ne_eq, Decidable.not_not] at hc1
    refine CW.skip ?_
    refine thenE_norm (h4 _ _ ?_); clear h4; try clear K4
    refine CW.seq (fun K6 h6 => ?_)
    refine CW.block ?_
    refine CW.seq (fun K7 h7 => ?_)
    obtain ⟨x, hx⟩ := get_of_lt (show i < l.length by omega)
    refine CW.region ?_
    refine r_move rfl ?_
    refine r_move rfl ?_
    refine r_indexAddrV rfl Try.underlying48 (by simp only [upd_get, ev, Nat.reduceEqDiff, ↓reduceIte] <;> rfl) rfl (by first | assumption | exact SH.rsR H (by (repeat first | exact At.here | apply At.there); done) | exact SH.rsO H (by (repeat first | exact At.here | apply At.there); done) | exact Rs.toH (by first | assumption | exact SH.rsR H (by (repeat first | exact At.here | apply At.there); done) | exact SH.rsO H (by (repeat first | exact At.here | apply At.there); done)) (by omega) | exact Rs.toL (by first | assumption | exact SH.rsR H (by (repeat first | exact At.here | apply At.there); done) | exact SH.rsO H (by (repeat first | exact At.here | apply At.there); done)) (by omega) | exact Rs.toLH (by first | assumption | exact SH.rsR H (by (repeat first | exact At.here | apply At.there); done) | exact SH.rsO H (by (repeat first | exact At.here | apply At.there); done)) (by omega) (by omega) | exact (Rs.nil : Rs Non _ _ _)) (by exact Try.sizeOf52) (by omega) (by omega) ?_
    refine r_fieldAddrO rfl Try.underlying52 rfl Try.sizeOf3 (by decide) (show _ + 0 = _ from rfl) rfl ?_
    refine r_load rfl Try.isAgg3 rfl (by first | exact SH.cellB H (by (repeat first | exact At.here | apply At.there); done) (by rfl) | exact SH.cellI H (by (repeat first | exact At.here | apply At.there); done) (by rfl) | exact Rs.cell (by first | assumption | exact SH.rsR H (by (repeat first | exact At.here | apply At.there); done) | exact SH.rsO H (by (repeat first | exact At.here | apply At.there); done) | exact Rs.toH (by first | assumption | exact SH.rsR H (by (repeat first | exact At.here | apply At.there); done) | exact SH.rsO H (by (repeat first | exact At.here | apply At.there); done)) (by omega) | exact Rs.toL (by first | assumption | exact SH.rsR H (by (repeat first | exact At.here | apply At.there); done) | exact SH.rsO H (by (repeat first | exact At.here | apply At.there); done)) (by omega) | exact Rs.toLH (by first | assumption | exact SH.rsR H (by (repeat first | exact At.here | apply At.there); done) | exact SH.rsO H (by (repeat first | exact At.here | apply At.there); done)) (by omega) (by omega) | exact (Rs.nil : Rs Non _ _ _)) (by assumption) (by rfl) | exact Rs.cell0 (by first | assumption | exact SH.rsR H (by (repeat first | exact At.here | apply At.there); done) | exact SH.rsO H (by (repeat first | exact At.here | apply At.there); done) | exact Rs.toH (by first | assumption | exact SH.rsR H (by (repeat first | exact At.here | apply At.there); done) | exact SH.rsO H (by (repeat first | exact At.here | apply At.there); done)) (by omega) | exact Rs.toL (by first | assumption | exact SH.rsR H (by (repeat first | exact At.here | apply At.there); done) | exact SH.rsO H (by (repeat first | exact At.here | apply At.there); done)) (by omega) | exact Rs.toLH (by first | assumption | exact SH.rsR H (by (repeat first | exact At.here | apply At.there); done) | exact SH.rsO H (by (repeat first | exact At.here | apply At.there); done)) (by omega) (by omega) | exact (Rs.nil : Rs Non _ _ _)) (by assumption) (by rfl) | assumption) ?_
    refine r_move rfl ?_
    refine r_eql rfl rfl rfl ?_
    refine LW.nil ?_
    refine thenE_norm ?_
    refine cut (K := K7) [0, 1, 4, 6, 19] (fun σ => ?_)
    simp only [setL, keepE, upd_get, ev, Nat.reduceEqDiff, ↓reduceIte]
    refine h7 _ _ ?_; clear h7; try clear K7
    refine CW.cond rfl (fun hc2 => ?_) (fun hc2 => ?_)
    · try simp only [decide_eq_true_eq, decide_eq_false_iff_not, Bool.and_eq_true, Bool.or_eq_true, Bool.and_eq_false_iff, Bool.or_eq_false_iff, Bool.not_eq_true', Bool.not_eq_false', beq_iff_eq, bne_iff_ne, ne_eq, Decidable.not_not] at hc2
      refine CW.seq (fun K8 h8 => ?_)
      refine CW.region ?_
      refine r_move rfl ?_
      refine r_move rfl ?_
      refine r_indexAddrV rfl Try.underlying48 (by simp only [upd_get, ev, Nat.reduceEqDiff, ↓reduceIte] <;> rfl) rfl (by first | assumption | exact SH.rsR H (by (repeat first | exact At.here | apply At.there); done) | exact SH.rsO H (by (repeat first | exact At.here | apply At.there); done) | exact Rs.toH (by first | assumption | exact SH.rsR H (by (repeat first | exact At.here | apply At.there); done) | exact SH.rsO H (by (repeat first | exact At.here | apply At.there); done)) (by omega) | exact Rs.toL (by first | assumption | exact SH.rsR H (by (repeat first | exact At.here | apply At.there); done) | exact SH.rsO H (by (repeat first | exact At.here | apply At.there); done)) (by omega) | exact Rs.toLH (by first | assumption | exact SH.rsR H (by (repeat first | exact At.here | apply At.there); done) | exact SH.rsO H (by (repeat first | exact At.here | apply At.there); done)) (by omega) (by omega) | exact (Rs.nil : Rs Non _ _ _)) (by exact Try.sizeOf52) (by omega) (by omega) ?_
      refine r_loadA rfl Try.isAgg52 Try.sizeOf52 rfl (by first | exact SH.cells H (by (repeat first | exact At.here | apply At.there); done) | exact Rs.cells0 (by first | assumption | exact SH.rsR H (by (repeat first | exact At.here | apply At.there); done) | exact SH.rsO H (by (repeat first | exact At.here | apply At.there); done) | exact Rs.toH (by first | assumption | exact SH.rsR H (by (repeat first | exact At.here | apply At.there); done) | exact SH.rsO H (by (repeat first | exact At.here | apply At.there); done)) (by omega) | exact Rs.toL (by first | assumption | exact SH.rsR H (by (repeat first | exact At.here | apply At.there); done) | exact SH.rsO H (by (repeat first | exact At.here | apply At.there); done)) (by omega) | exact Rs.toLH (by first | assumption | exact SH.rsR H (by (repeat first | exact At.here | apply At.there); done) | exact SH.rsO H (by (repeat first | exact At.here | apply At.there); done)) (by omega) (by omega) | exact (Rs.nil : Rs Non _ _ _)) (by assumption)) (by rfl) ?_
      refine s_storeA H Try.sizeOf52 rfl (by simp only [upd_get, ev, Nat.reduceEqDiff, ↓reduceIte] <;> rfl) (by simp only [cellsL, agg, List.toList_toArray, Row.cells, Ses.L] <;> rfl) (by rfl) (by first | rfl | exact Rs.oneC (by first | assumption | exact SH.rsR H (by (repeat first | exact At.here | apply At.there); done) | exact SH.rsO H (by (repeat first | exact At.here | apply At.there); done) | exact Rs.toH (by first | assumption | exact SH.rsR H (by (repeat first | exact At.here | apply At.there); done) | exact SH.rsO H (by (repeat first | exact At.here | apply At.there); done)) (by omega) | exact Rs.toL (by first | assumption | exact SH.rsR H (by (repeat first | exact At.here | apply At.there); done) | exact SH.rsO H (by (repeat first | exact At.here | apply At.there); done)) (by omega) | exact Rs.toLH (by first | assumption | exact SH.rsR H (by (repeat first | exact At.here | apply At.there); done) | exact SH.rsO H (by (repeat first | exact At.here | apply At.there); done)) (by omega) (by omega) | exact (Rs.nil : Rs Non _ _ _)) | (simp only [List.all_cons, List.all_nil, Bool.and_true, Bool.and_eq_true, Row.cells, Ses.L]; (repeat' constructor) <;> first | rfl | exact Rs.oneC (by first | assumption | exact SH.rsR H (by (repeat first | exact At.here | apply At.there); done) | exact SH.rsO H (by (repeat first | exact At.here | apply At.there); done) | exact Rs.toH (by first | assumption | exact SH.rsR H (by (repeat first | exact At.here | apply At.there); done) | exact SH.rsO H (by (repeat first | exact At.here | apply At.there); done)) (by omega) | exact Rs.toL (by first | assumption | exact SH.rsR H (by (repeat first | exact At.here | apply At.there); done) | exact SH.rsO H (by (repeat first | exact At.here | apply At.there); done)) (by omega) | exact Rs.toLH (by first | assumption | exact SH.rsR H (by (repeat first | exact At.here | apply At.there); done) | exact SH.rsO H (by (repeat first | exact At.here | apply At.there); done)) (by omega) (by omega) | exact (Rs.nil : Rs Non _ _ _)))) (by (repeat first | exact At.here | apply At.there); done) (by first | (simp; done) | decide | (show _ ≤ _; decide)) ?_
      clear H
      intro w5_4 H
      try dsimp only [replC, List.cons_append, List.nil_append, List.append_nil, agg, cellsL, Value.cells, List.toList_toArray, List.set_cons_zero, List.set_cons_succ, spliceL, List.take_succ_cons, List.take_zero, List.drop_succ_cons, List.drop_zero, List.length_cons, List.length_nil, Nat.reduceAdd, Row.cells, Ses.L] at H
      refine r_assign rfl ?_
      refine LW.nil ?_
      refine thenE_norm (h8 _ _ ?_); clear h8; try clear K8
      refine CW.ret (blockE_ret (thenE_ret (thenE_ret (blockE_ret (thenE_ret (retC2 Try.results38 (by simp only [upd_get, ev, Nat.reduceEqDiff, ↓reduceIte] <;> rfl) (by simp only [upd_get, ev, Nat.reduceEqDiff, ↓reduceIte] <;> rfl) Try.isAgg52 Try.sizeOf52 (by exact SH.cells H (by (repeat first | exact At.here | apply At.there); done)) (by rfl) ?_))))))
      rw [findS, find_first hx hno (by simpa using hc2)]
      exact ⟨rfl, H.ext⟩
    · try simp only [decide_eq_true_eq, decide_eq_false_iff_not, Bool.and_eq_true, Bool.or_eq_true, Bool.and_eq_false_iff, Bool.or_eq_false_iff, Bool.not_eq_true', Bool.not_eq_false', beq_iff_eq, bne_iff_ne, ne_eq, Decidable.not_not] at hc2
      refine CW.skip ?_
      refine blockE_norm ?_
      refine thenE_norm (h6 _ _ ?_); clear h6; try clear K6
      refine CW.region ?_
      refine r_move rfl ?_
      refine r_add rfl rfl rfl (wr_i64 (by omega) (by omega)) ?_
      refine r_assign rfl ?_
      refine LW.nil ?_
      refine thenE_norm ⟨rfl, ?_⟩
      exact ⟨l.length - (i + 1), by omega, i + 1, rfl, by omega, rfl, find_snoc hx hno (by simpa using hc2), (SH.sel H [0, 1] (by decide) (by rfl))⟩
  · try simp only [decide_eq_true_eq, decide_eq_false_iff_not, Bool.and_eq_true, Bool.or_eq_true, Bool.and_eq_false_iff, Bool.or_eq_false_iff, Bool.not_eq_true', Bool.not_eq_false', beq_iff_eq, bne_iff_ne, ne_eq, Decidable.not_not] at hc1
    refine CW.exit (thenE_exit (thenE_exit (blockE_hit ?_)))
    refine thenE_norm (h2 _ _ ?_); clear h2; try clear K2
    refine CW.seq (fun K9 h9 => ?_)
    refine CW.region ?_
    refine r_buildQ rfl Try.underlying52 Try.zeroValue52 rfl (pl := [(0, 1), (1, 1), (2, 1)]) (by intro w; simp [go_sem]) (qs := []) (cs := [.int .i64 0, .int .i64 0, .int .i64 0]) trivial rfl ?_
    refine s_storeA H Try.sizeOf52 rfl (by simp only [upd_get, ev, Nat.reduceEqDiff, ↓reduceIte] <;> rfl) (by simp only [cellsL, agg, List.toList_toArray, Row.cells, Ses.L] <;> rfl) (by rfl) (by first | rfl | exact Rs.oneC (by first | assumption | exact SH.rsR H (by (repeat first | exact At.here | apply At.there); done) | exact SH.rsO H (by (repeat first | exact At.here | apply At.there); done) | exact Rs.toH (by first | assumption | exact SH.rsR H (by (repeat first | exact At.here | apply At.there); done) | exact SH.rsO H (by (repeat first | exact At.here | apply At.there); done)) (by omega) | exact Rs.toL (by first | assumption | exact SH.rsR H (by (repeat first | exact At.here | apply At.there); done) | exact SH.rsO H (by (repeat first | exact At.here | apply At.there); done)) (by omega) | exact Rs.toLH (by first | assumption | exact SH.rsR H (by (repeat first | exact At.here | apply At.there); done) | exact SH.rsO H (by (repeat first | exact At.here | apply At.there); done)) (by omega) (by omega) | exact (Rs.nil : Rs Non _ _ _)) | (simp only [List.all_cons, List.all_nil, Bool.and_true, Bool.and_eq_true, Row.cells, Ses.L]; (repeat' constructor) <;> first | rfl | exact Rs.oneC (by first | assumption | exact SH.rsR H (by (repeat first | exact At.here | apply At.there); done) | exact SH.rsO H (by (repeat first | exact At.here | apply At.there); done) | exact Rs.toH (by first | assumption | exact SH.rsR H (by (repeat first | exact At.here | apply At.there); done) | exact SH.rsO H (by (repeat first | exact At.here | apply At.there); done)) (by omega) | exact Rs.toL (by first | assumption | exact SH.rsR H (by (repeat first | exact At.here | apply At.there); done) | exact SH.rsO H (by (repeat first | exact At.here | apply At.there); done)) (by omega) | exact Rs.toLH (by first | assumption | exact SH.rsR H (by (repeat first | exact At.here | apply At.there); done) | exact SH.rsO H (by (repeat first | exact At.here | apply At.there); done)) (by omega) (by omega) | exact (Rs.nil : Rs Non _ _ _)))) (by (repeat first | exact At.here | apply At.there); done) (by first | (simp; done) | decide | (show _ ≤ _; decide)) ?_
    clear H
    intro w6_1 H
    try dsimp only [replC, List.cons_append, List.nil_append, List.append_nil, agg, cellsL, Value.cells, List.toList_toArray, List.set_cons_zero, List.set_cons_succ, spliceL, List.take_succ_cons, List.take_zero, List.drop_succ_cons, List.drop_zero, List.length_cons, List.length_nil, Nat.reduceAdd, Row.cells, Ses.L] at H
    refine r_assign rfl ?_
    refine LW.nil ?_
    refine thenE_norm (h9 _ _ ?_); clear h9; try clear K9
    refine CW.ret (retC2 Try.results38 (by simp only [upd_get, ev, Nat.reduceEqDiff, ↓reduceIte] <;> rfl) (by simp only [upd_get, ev, Nat.reduceEqDiff, ↓reduceIte] <;> rfl) Try.isAgg52 Try.sizeOf52 (by exact SH.cells H (by (repeat first | exact At.here | apply At.there); done)) (by rfl) ?_)
    obtain rfl : i = l.length := by omega
    rw [List.take_length] at hno
    rw [findS, hno]
    exact ⟨rfl, H.ext⟩
theorem lowB_spec {α : Type} (c : α → Int) (l : List α) : (∀ (k : Nat) (x : α), k < lowB c l → l[k]? = some x → c x < 0) ∧ (∀ x, l[lowB c l]? = some x → 0 ≤ c x) := by
  constructor
  · intro k x hk hx
    have hl := lt_of_get hx
    have := List.not_of_lt_findIdx (p := fun x => decide (0 ≤ c x)) (xs := l) (i := k) hk
    rw [List.getElem?_eq_getElem hl] at hx
    have e := Option.some.inj hx
    simp only [e, decide_eq_false_iff_not] at this
    simpa using this
  · intro x hx
    have hl := lt_of_get hx
    have := List.findIdx_getElem (p := fun x => decide (0 ≤ c x)) (xs := l) (w := hl)
    rw [List.getElem?_eq_getElem hl] at hx
    have e : l[l.findIdx (fun x => decide (0 ≤ c x))]'hl = x := Option.some.inj hx
    have h3 : decide (0 ≤ c (l[l.findIdx (fun x => decide (0 ≤ c x))]'hl)) = true := this
    rw [e] at h3
    simpa using h3
theorem findS_place {l : List Ses} {n : Int} (hup : UpS l) : (inS l n = true ∧ ∃ s, l[atS l n]? = some s ∧ s.client = n ∧ findS l n = (s, true)) ∨ (inS l n = false ∧ findS l n = (⟨0, 0, 0⟩, false) ∧ ∀ s ∈ l, s.client ≠ n) := by
  obtain ⟨h1, h2⟩ := lowB_spec (fun s : Ses => cmpM s.client n) l
  cases hin : inS l n
  · right
    have hall : ∀ s ∈ l, s.client ≠ n := by
      intro s hs he
      obtain ⟨k, hk⟩ := List.mem_iff_getElem?.1 hs
      have hkl := lt_of_get hk
      rcases Nat.lt_trichotomy k (atS l n) with h | h | h
      · have := cmpM_neg.1 (h1 k s h hk); omega
      · rw [inS, hitB] at hin
        rw [h, atS] at hk
        rw [hk] at hin
        have : ¬ cmpM s.client n = 0 := by simpa using hin
        exact this (cmpM_zero.2 he)
      · obtain ⟨y, hy⟩ := get_of_lt (show atS l n < l.length by omega)
        have hy2 := h2 y hy
        have h3 := hup (atS l n) k y s h hy hk
        have h4 : ¬ y.client < n := fun h => by have := cmpM_neg.2 h; omega
        omega
    refine ⟨rfl, ?_, hall⟩
    rw [findS, List.find?_eq_none.2 (fun s hs => by simpa using hall s hs)]
  · left
    obtain ⟨s, hs, hc⟩ := at_in hin
    refine ⟨rfl, s, hs, hc, ?_⟩
    rw [findS, find_first hs (List.find?_eq_none.2 fun x hx => ?_) (by simpa using hc)]
    obtain ⟨k, hk, hkx⟩ := List.mem_take_iff_getElem.1 hx
    have := cmpM_neg.1 (h1 k x (by have : k < atS l n := by omega
                                   exact this) (by rw [← hkx, List.getElem?_eq_getElem]))
    simp; omega
theorem Find_c {F : Nat → Prop} {v : Value} {l : List Ses} (n : Int) (w : World) (hv : Rs F w v l) (hn : l.length ≤ 1000000) (hup : UpS l) :
    Calls Try.prog 37 #[v, .int .i64 n] w fun e w' => e = .returned (.tuple #[agg (findS l n).1, .bool (findS l n).2]) ∧ Ext0 w w' := by
  have H := (SH.start w).arg hv
  have h63 := hv.len63
  refine calls_of_CW Try.func37 rfl Try.ntmps37 (Nat.le_of_ble_eq_true rfl) ?_
  simp only [argE, argFrom, Nat.reduceAdd]
  refine CW.seq (fun K1 h1 => ?_)
  refine CW.region ?_
  refine s_alloc (cs := [.int .i64 0, .int .i64 0, .int .i64 0]) H rfl Try.zeroValue52 rfl ?_
  clear H
  intro b0_0 w0_0 H
  try dsimp only [replC, List.cons_append, List.nil_append, List.append_nil, agg, cellsL, Value.cells, List.toList_toArray, List.set_cons_zero, List.set_cons_succ, spliceL, List.take_succ_cons, List.take_zero, List.drop_succ_cons, List.drop_zero, List.length_cons, List.length_nil, Nat.reduceAdd, Row.cells, Ses.L] at H
  refine r_assign rfl ?_
  refine LW.nil ?_
  refine thenE_norm (h1 _ _ ?_); clear h1; try clear K1
  refine CW.seq (fun K2 h2 => ?_)
  refine CW.seq (fun K3 h3 => ?_)
  refine CW.region ?_
  refine r_move rfl ?_
  refine r_move rfl ?_
  refine r_call rfl Try.call43 (by simp only [List.map_cons, List.map_nil, List.map_toArray, List.toList_toArray, upd_get, ev, Nat.reduceEqDiff, ↓reduceIte] <;> rfl) (place_c _ _ (by first | assumption | exact SH.rsR H (by (repeat first | exact At.here | apply At.there); done) | exact SH.rsO H (by (repeat first | exact At.here | apply At.there); done) | exact Rs.toH (by first | assumption | exact SH.rsR H (by (repeat first | exact At.here | apply At.there); done) | exact SH.rsO H (by (repeat first | exact At.here | apply At.there); done)) (by omega) | exact Rs.toL (by first | assumption | exact SH.rsR H (by (repeat first | exact At.here | apply At.there); done) | exact SH.rsO H (by (repeat first | exact At.here | apply At.there); done)) (by omega) | exact Rs.toLH (by first | assumption | exact SH.rsR H (by (repeat first | exact At.here | apply At.there); done) | exact SH.rsO H (by (repeat first | exact At.here | apply At.there); done)) (by omega) (by omega) | exact (Rs.nil : Rs Non _ _ _)) (by first | omega | (simp only [List.length_append, List.length_cons, List.length_nil]; omega) | (simp; omega)) hup) ?_
  rintro _ w1_2 ⟨rfl, X⟩
  refine ⟨_, rfl, ?_⟩
  replace H := SH.same H X
  clear X
  refine r_move rfl ?_
  refine r_extract rfl (by simp only [upd_get, ev, Nat.reduceEqDiff, ↓reduceIte] <;> rfl) (by simp only [List.getElem?_toArray, List.getElem?_cons_zero, List.getElem?_cons_succ] <;> rfl) ?_
  refine r_extract rfl (by simp only [upd_get, ev, Nat.reduceEqDiff, ↓reduceIte] <;> rfl) (by simp only [List.getElem?_toArray, List.getElem?_cons_zero, List.getElem?_cons_succ] <;> rfl) ?_
  refine r_assign rfl ?_
  refine r_assign rfl ?_
  refine LW.nil ?_
  refine thenE_norm ?_
  refine cut (K := K3) [0, 4, 6, 7] (fun σ => ?_)
  simp only [setL, keepE, upd_get, ev, Nat.reduceEqDiff, ↓reduceIte]
  refine h3 _ _ ?_; clear h3; try clear K3
  refine CW.seq (fun K4 h4 => ?_)
  rcases findS_place (n := n) hup with ⟨hin, s, hs, hc, hf⟩ | ⟨hin, hf, -⟩
  · rw [hin]
    have hsl := lt_of_get hs
    refine CW.region ?_
    refine r_move rfl ?_
    refine LW.nil ?_
    refine thenE_norm (h4 _ _ ?_); clear h4; try clear K4
    refine CW.condT rfl (by first | rfl | (simp only [decide_eq_true_eq, decide_eq_false_iff_not, Bool.and_eq_true, Bool.or_eq_true, Bool.and_eq_false_iff, Bool.or_eq_false_iff, Bool.not_eq_true', Bool.not_eq_false', beq_iff_eq, bne_iff_ne]; omega) | simp_all) ?_
    refine CW.seq (fun K5 h5 => ?_)
    refine CW.region ?_
    refine r_move rfl ?_
    refine r_move rfl ?_
    refine r_indexAddrV rfl Try.underlying48 (by simp only [upd_get, ev, Nat.reduceEqDiff, ↓reduceIte] <;> rfl) rfl (by first | assumption | exact SH.rsR H (by (repeat first | exact At.here | apply At.there); done) | exact SH.rsO H (by (repeat first | exact At.here | apply At.there); done) | exact Rs.toH (by first | assumption | exact SH.rsR H (by (repeat first | exact At.here | apply At.there); done) | exact SH.rsO H (by (repeat first | exact At.here | apply At.there); done)) (by omega) | exact Rs.toL (by first | assumption | exact SH.rsR H (by (repeat first | exact At.here | apply At.there); done) | exact SH.rsO H (by (repeat first | exact At.here | apply At.there); done)) (by omega) | exact Rs.toLH (by first | assumption | exact SH.rsR H (by (repeat first | exact At.here | apply At.there); done) | exact SH.rsO H (by (repeat first | exact At.here | apply At.there); done)) (by omega) (by omega) | exact (Rs.nil : Rs Non _ _ _)) (by exact Try.sizeOf52) (by omega) (by omega) ?_
    refine r_loadA rfl Try.isAgg52 Try.sizeOf52 rfl (by first | exact SH.cells H (by (repeat first | exact At.here | apply At.there); done) | exact Rs.cells0 (by first | assumption | exact SH.rsR H (by (repeat first | exact At.here | apply At.there); done) | exact SH.rsO H (by (repeat first | exact At.here | apply At.there); done) | exact Rs.toH (by first | assumption | exact SH.rsR H (by (repeat first | exact At.here | apply At.there); done) | exact SH.rsO H (by (repeat first | exact At.here | apply At.there); done)) (by omega) | exact Rs.toL (by first | assumption | exact SH.rsR H (by (repeat first | exact At.here | apply At.there); done) | exact SH.rsO H (by (repeat first | exact At.here | apply At.there); done)) (by omega) | exact Rs.toLH (by first | assumption | exact SH.rsR H (by (repeat first | exact At.here | apply At.there); done) | exact SH.rsO H (by (repeat first | exact At.here | apply At.there); done)) (by omega) (by omega) | exact (Rs.nil : Rs Non _ _ _)) (by assumption)) (by rfl) ?_
    refine s_storeA H Try.sizeOf52 rfl (by simp only [upd_get, ev, Nat.reduceEqDiff, ↓reduceIte] <;> rfl) (by simp only [cellsL, agg, List.toList_toArray, Row.cells, Ses.L] <;> rfl) (by rfl) (by first | rfl | exact Rs.oneC (by first | assumption | exact SH.rsR H (by (repeat first | exact At.here | apply At.there); done) | exact SH.rsO H (by (repeat first | exact At.here | apply At.there); done) | exact Rs.toH (by first | assumption | exact SH.rsR H (by (repeat first | exact At.here | apply At.there); done) | exact SH.rsO H (by (repeat first | exact At.here | apply At.there); done)) (by omega) | exact Rs.toL (by first | assumption | exact SH.rsR H (by (repeat first | exact At.here | apply At.there); done) | exact SH.rsO H (by (repeat first | exact At.here | apply At.there); done)) (by omega) | exact Rs.toLH (by first | assumption | exact SH.rsR H (by (repeat first | exact At.here | apply At.there); done) | exact SH.rsO H (by (repeat first | exact At.here | apply At.there); done)) (by omega) (by omega) | exact (Rs.nil : Rs Non _ _ _)) | (simp only [List.all_cons, List.all_nil, Bool.and_true, Bool.and_eq_true, Row.cells, Ses.L]; (repeat' constructor) <;> first | rfl | exact Rs.oneC (by first | assumption | exact SH.rsR H (by (repeat first | exact At.here | apply At.there); done) | exact SH.rsO H (by (repeat first | exact At.here | apply At.there); done) | exact Rs.toH (by first | assumption | exact SH.rsR H (by (repeat first | exact At.here | apply At.there); done) | exact SH.rsO H (by (repeat first | exact At.here | apply At.there); done)) (by omega) | exact Rs.toL (by first | assumption | exact SH.rsR H (by (repeat first | exact At.here | apply At.there); done) | exact SH.rsO H (by (repeat first | exact At.here | apply At.there); done)) (by omega) | exact Rs.toLH (by first | assumption | exact SH.rsR H (by (repeat first | exact At.here | apply At.there); done) | exact SH.rsO H (by (repeat first | exact At.here | apply At.there); done)) (by omega) (by omega) | exact (Rs.nil : Rs Non _ _ _)))) (by (repeat first | exact At.here | apply At.there); done) (by first | (simp; done) | decide | (show _ ≤ _; decide)) ?_
    clear H
    intro w3_4 H
    try dsimp only [replC, List.cons_append, List.nil_append, List.append_nil, agg, cellsL, Value.cells, List.toList_toArray, List.set_cons_zero, List.set_cons_succ, spliceL, List.take_succ_cons, List.take_zero, List.drop_succ_cons, List.drop_zero, List.length_cons, List.length_nil, Nat.reduceAdd, Row.cells, Ses.L] at H
    refine r_assign rfl ?_
    refine LW.nil ?_
    refine thenE_norm (h5 _ _ ?_); clear h5; try clear K5
    refine CW.ret (thenE_ret (retC2 Try.results37 (by simp only [upd_get, ev, Nat.reduceEqDiff, ↓reduceIte] <;> rfl) (by simp only [upd_get, ev, Nat.reduceEqDiff, ↓reduceIte] <;> rfl) Try.isAgg52 Try.sizeOf52 (by exact SH.cells H (by (repeat first | exact At.here | apply At.there); done)) (by rfl) ?_))
    rw [hf]
    exact ⟨rfl, H.ext⟩
  · rw [hin]
    refine CW.region ?_
    refine r_move rfl ?_
    refine LW.nil ?_
    refine thenE_norm (h4 _ _ ?_); clear h4; try clear K4
    refine CW.condF rfl (by first | rfl | (simp only [decide_eq_true_eq, decide_eq_false_iff_not, Bool.and_eq_true, Bool.or_eq_true, Bool.and_eq_false_iff, Bool.or_eq_false_iff, Bool.not_eq_true', Bool.not_eq_false', beq_iff_eq, bne_iff_ne]; omega) | simp_all) ?_
    refine CW.skip ?_
    refine thenE_norm (h2 _ _ ?_); clear h2; try clear K2
    refine CW.seq (fun K6 h6 => ?_)
    refine CW.region ?_
    refine r_buildQ rfl Try.underlying52 Try.zeroValue52 rfl (pl := [(0, 1), (1, 1), (2, 1)]) (by intro w; simp [go_sem]) (qs := []) (cs := [.int .i64 0, .int .i64 0, .int .i64 0]) trivial rfl ?_
    refine s_storeA H Try.sizeOf52 rfl (by simp only [upd_get, ev, Nat.reduceEqDiff, ↓reduceIte] <;> rfl) (by simp only [cellsL, agg, List.toList_toArray, Row.cells, Ses.L] <;> rfl) (by rfl) (by first | rfl | exact Rs.oneC (by first | assumption | exact SH.rsR H (by (repeat first | exact At.here | apply At.there); done) | exact SH.rsO H (by (repeat first | exact At.here | apply At.there); done) | exact Rs.toH (by first | assumption | exact SH.rsR H (by (repeat first | exact At.here | apply At.there); done) | exact SH.rsO H (by (repeat first | exact At.here | apply At.there); done)) (by omega) | exact Rs.toL (by first | assumption | exact SH.rsR H (by (repeat first | exact At.here | apply At.there); done) | exact SH.rsO H (by (repeat first | exact At.here | apply At.there); done)) (by omega) | exact Rs.toLH (by first | assumption | exact SH.rsR H (by (repeat first | exact At.here | apply At.there); done) | exact SH.rsO H (by (repeat first | exact At.here | apply At.there); done)) (by omega) (by omega) | exact (Rs.nil : Rs Non _ _ _)) | (simp only [List.all_cons, List.all_nil, Bool.and_true, Bool.and_eq_true, Row.cells, Ses.L]; (repeat' constructor) <;> first | rfl | exact Rs.oneC (by first | assumption | exact SH.rsR H (by (repeat first | exact At.here | apply At.there); done) | exact SH.rsO H (by (repeat first | exact At.here | apply At.there); done) | exact Rs.toH (by first | assumption | exact SH.rsR H (by (repeat first | exact At.here | apply At.there); done) | exact SH.rsO H (by (repeat first | exact At.here | apply At.there); done)) (by omega) | exact Rs.toL (by first | assumption | exact SH.rsR H (by (repeat first | exact At.here | apply At.there); done) | exact SH.rsO H (by (repeat first | exact At.here | apply At.there); done)) (by omega) | exact Rs.toLH (by first | assumption | exact SH.rsR H (by (repeat first | exact At.here | apply At.there); done) | exact SH.rsO H (by (repeat first | exact At.here | apply At.there); done)) (by omega) (by omega) | exact (Rs.nil : Rs Non _ _ _)))) (by (repeat first | exact At.here | apply At.there); done) (by first | (simp; done) | decide | (show _ ≤ _; decide)) ?_
    clear H
    intro w4_1 H
    try dsimp only [replC, List.cons_append, List.nil_append, List.append_nil, agg, cellsL, Value.cells, List.toList_toArray, List.set_cons_zero, List.set_cons_succ, spliceL, List.take_succ_cons, List.take_zero, List.drop_succ_cons, List.drop_zero, List.length_cons, List.length_nil, Nat.reduceAdd, Row.cells, Ses.L] at H
    refine r_assign rfl ?_
    refine LW.nil ?_
    refine thenE_norm (h6 _ _ ?_); clear h6; try clear K6
    refine CW.ret (retC2 Try.results37 (by simp only [upd_get, ev, Nat.reduceEqDiff, ↓reduceIte] <;> rfl) (by simp only [upd_get, ev, Nat.reduceEqDiff, ↓reduceIte] <;> rfl) Try.isAgg52 Try.sizeOf52 (by exact SH.cells H (by (repeat first | exact At.here | apply At.there); done)) (by rfl) ?_)
    rw [hf]
    exact ⟨rfl, H.ext⟩
end Go.Proofs.Ytcmnhneigojpoaa
