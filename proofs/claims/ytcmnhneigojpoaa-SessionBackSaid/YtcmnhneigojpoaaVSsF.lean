/-
  The walks of layer 6's functions, the sixth part: who is due.
-/
import Derived.Test.YtcmnhneigojpoaaVSsE
namespace Go.Proofs.Ytcmnhneigojpoaa
set_option linter.unusedSimpArgs false
set_option linter.unusedVariables false
set_option maxRecDepth 20000
open Go.V Go.RowKit Go.ChangeShapes Go.WideShapes

def timesS (l : List Ses) : Prop := ∀ s ∈ l, 0 ≤ s.renewed ∧ s.renewed ≤ 2305843009213693952
def dueL (l : List Ses) (now lease : Int) : List Int := (l.filter fun s => decide (lease ≤ now - s.renewed)).map Ses.client
def badT (now lease : Int) : Prop := now < 0 ∨ 2305843009213693952 < now ∨ lease < 0 ∨ 2305843009213693952 < lease
instance (a b : Int) : Decidable (badT a b) := by unfold badT; infer_instance
def dueM (l : List Ses) (now lease : Int) : List Int := if badT now lease then [] else dueL l now lease
theorem due_snoc {l : List Ses} {i : Nat} {s : Ses} (now lease : Int) (h : l[i]? = some s) : dueL (l.take (i + 1)) now lease = dueL (l.take i) now lease ++ (if lease ≤ now - s.renewed then [s.client] else []) := by
  rw [dueL, V.take_snoc h, List.filter_append, List.map_append, ← dueL]
  by_cases hq : lease ≤ now - s.renewed <;> simp [hq]
theorem due_len (l : List Ses) (now lease : Int) : (dueL l now lease).length ≤ l.length := by rw [dueL, List.length_map]; exact List.length_filter_le _ _
theorem Due_c {F : Nat → Prop} {v : Value} {l : List Ses} (now lease : Int) (w : World) (hv : Rs F w v l) (hn : l.length ≤ 1000000) (ht : timesS l) :
    Calls Try.prog 25 #[v, .int .i64 now, .int .i64 lease] w fun e w' => ∃ v' g', e = .returned v' ∧ SH Non Non w w' [.O 3 v' (dueM l now lease) g'] := by
  have H := (SH.start w).arg hv
  have h63 := hv.len63
  refine calls_of_CW Try.func25 rfl Try.ntmps25 (Nat.le_of_ble_eq_true rfl) ?_
  simp only [argE, argFrom, Nat.reduceAdd]
  refine CW.seq (fun K1 h1 => ?_)
  refine CW.region ?_
  refine r_assign rfl ?_
  refine LW.nil ?_
  refine thenE_norm (h1 _ _ ?_); clear h1; try clear K1
  refine CW.seq (fun K2 h2 => ?_)
  refine CW.region ?_
  refine r_assign rfl ?_
  refine LW.nil ?_
  refine thenE_norm (h2 _ _ ?_); clear h2; try clear K2
  refine CW.seq (fun K3 h3 => ?_)
  refine CW.seq (fun K4 h4 => ?_)
  refine CW.region ?_
  refine r_move rfl ?_
  refine r_lss rfl rfl rfl ?_
  refine r_move rfl ?_
  refine' LW.grpOr (n := 3) (ts := [0, 1, 2, 7, 16, 20]) (d := 15) (tj := 12) rfl (fun hg2_3 => ?_) (fun hg2_3 => ?_) (fun σ => ?_)
  rotate_left
  · simp only [List.take_succ_cons, List.take_zero]
    have hg2_3P := hg2_3
    try simp only [decide_eq_true_eq, decide_eq_false_iff_not, Bool.and_eq_true, Bool.or_eq_true, Bool.and_eq_false_iff, Bool.or_eq_false_iff, Bool.not_eq_true', Bool.not_eq_false', beq_iff_eq, bne_iff_ne] at hg2_3P
    refine LW.want rfl rfl hg2_3 ?_
    refine r_move rfl ?_
    refine LW.want rfl rfl hg2_3 ?_
    refine r_gtr rfl rfl rfl ?_
    refine r_pickF rfl rfl hg2_3 ?_
    refine LW.nil (thenE_norm ⟨rfl, rfl, rfl⟩)
  · simp only [List.take_succ_cons, List.take_zero]
    refine LW.skip rfl (fun _ e => by cases e; decide) rfl hg2_3 ?_
    refine LW.skip rfl (fun _ e => by cases e; decide) rfl hg2_3 ?_
    refine r_pickT rfl rfl hg2_3 ?_
    refine LW.nil (thenE_norm ⟨rfl, rfl, rfl⟩)
  simp only [setL, keepE, upd_get, ev, Nat.reduceEqDiff, ↓reduceIte]; simp only [List.drop_succ_cons, List.drop_zero]
  refine r_move rfl ?_
  refine' LW.grpOr (n := 3) (ts := [0, 1, 2, 7, 20]) (d := 19) (tj := 16) rfl (fun hg2_7 => ?_) (fun hg2_7 => ?_) (fun σ => ?_)
  rotate_left
  · simp only [List.take_succ_cons, List.take_zero]
    have hg2_7P := hg2_7
    try simp only [decide_eq_true_eq, decide_eq_false_iff_not, Bool.and_eq_true, Bool.or_eq_true, Bool.and_eq_false_iff, Bool.or_eq_false_iff, Bool.not_eq_true', Bool.not_eq_false', beq_iff_eq, bne_iff_ne] at hg2_7P
    refine LW.want rfl rfl hg2_7 ?_
    refine r_move rfl ?_
    refine LW.want rfl rfl hg2_7 ?_
    refine r_lss rfl rfl rfl ?_
    refine r_pickF rfl rfl hg2_7 ?_
    refine LW.nil (thenE_norm ⟨rfl, rfl, rfl⟩)
  · simp only [List.take_succ_cons, List.take_zero]
    refine LW.skip rfl (fun _ e => by cases e; decide) rfl hg2_7 ?_
    refine LW.skip rfl (fun _ e => by cases e; decide) rfl hg2_7 ?_
    refine r_pickT rfl rfl hg2_7 ?_
    refine LW.nil (thenE_norm ⟨rfl, rfl, rfl⟩)
  simp only [setL, keepE, upd_get, ev, Nat.reduceEqDiff, ↓reduceIte]; simp only [List.drop_succ_cons, List.drop_zero]
  refine r_move rfl ?_
  refine' LW.grpOr (n := 3) (ts := [0, 1, 2, 7]) (d := 23) (tj := 20) rfl (fun hg2_11 => ?_) (fun hg2_11 => ?_) (fun σ => ?_)
  rotate_left
  · simp only [List.take_succ_cons, List.take_zero]
    have hg2_11P := hg2_11
    try simp only [decide_eq_true_eq, decide_eq_false_iff_not, Bool.and_eq_true, Bool.or_eq_true, Bool.and_eq_false_iff, Bool.or_eq_false_iff, Bool.not_eq_true', Bool.not_eq_false', beq_iff_eq, bne_iff_ne] at hg2_11P
    refine LW.want rfl rfl hg2_11 ?_
    refine r_move rfl ?_
    refine LW.want rfl rfl hg2_11 ?_
    refine r_gtr rfl rfl rfl ?_
    refine r_pickF rfl rfl hg2_11 ?_
    refine LW.nil (thenE_norm ⟨rfl, rfl, rfl⟩)
  · simp only [List.take_succ_cons, List.take_zero]
    refine LW.skip rfl (fun _ e => by cases e; decide) rfl hg2_11 ?_
    refine LW.skip rfl (fun _ e => by cases e; decide) rfl hg2_11 ?_
    refine r_pickT rfl rfl hg2_11 ?_
    refine LW.nil (thenE_norm ⟨rfl, rfl, rfl⟩)
  simp only [setL, keepE, upd_get, ev, Nat.reduceEqDiff, ↓reduceIte]; simp only [List.drop_succ_cons, List.drop_zero]
  refine LW.nil ?_
  refine thenE_norm (h4 _ _ ?_); clear h4; try clear K4
  refine CW.cond rfl (fun hc1 => ?_) (fun hc1 => ?_)
  · try simp only [decide_eq_true_eq, decide_eq_false_iff_not, Bool.and_eq_true, Bool.or_eq_true, Bool.and_eq_false_iff, Bool.or_eq_false_iff, Bool.not_eq_true', Bool.not_eq_false', beq_iff_eq, bne_iff_ne, ne_eq, Decidable.not_not] at hc1
    refine CW.seq (fun K5 h5 => ?_)
    refine CW.region ?_
    refine r_assign rfl ?_
    refine LW.nil ?_
    refine thenE_norm (h5 _ _ ?_); clear h5; try clear K5
    refine CW.ret (thenE_ret (ret1 Try.results25 (by simp only [upd_get, ev, Nat.reduceEqDiff, ↓reduceIte]; rfl) ?_))
    rw [dueM, if_pos (by unfold badT; omega)]
    exact ⟨_, none, rfl, SH.give (H.addO (α := Int) 3) (by repeat first | exact List.Sublist.refl _ | exact List.nil_sublist _ | apply List.Sublist.cons_cons | apply List.Sublist.cons) ⟨trivial, trivial⟩⟩
  · try simp only [decide_eq_true_eq, decide_eq_false_iff_not, Bool.and_eq_true, Bool.or_eq_true, Bool.and_eq_false_iff, Bool.or_eq_false_iff, Bool.not_eq_true', Bool.not_eq_false', beq_iff_eq, bne_iff_ne, ne_eq, Decidable.not_not] at hc1
    refine CW.skip ?_
    refine thenE_norm (h3 _ _ ?_); clear h3; try clear K3
    refine CW.seq (fun K6 h6 => ?_)
    refine CW.seq (fun K7 h7 => ?_)
    refine CW.region ?_
    refine r_move rfl ?_
    first
      | refine r_lenV rfl Try.underlying48 (by simp only [upd_get, ev, Nat.reduceEqDiff, ↓reduceIte] <;> rfl) (by first | assumption | exact SH.rsR H (by (repeat first | exact At.here | apply At.there); done) | exact SH.rsO H (by (repeat first | exact At.here | apply At.there); done) | exact Rs.toH (by first | assumption | exact SH.rsR H (by (repeat first | exact At.here | apply At.there); done) | exact SH.rsO H (by (repeat first | exact At.here | apply At.there); done)) (by omega) | exact Rs.toL (by first | assumption | exact SH.rsR H (by (repeat first | exact At.here | apply At.there); done) | exact SH.rsO H (by (repeat first | exact At.here | apply At.there); done)) (by omega) | exact Rs.toLH (by first | assumption | exact SH.rsR H (by (repeat first | exact At.here | apply At.there); done) | exact SH.rsO H (by (repeat first | exact At.here | apply At.there); done)) (by omega) (by omega) | exact (Rs.nil : Rs Non _ _ _)) ?_
      | refine r_len rfl Try.underlying48 rfl ?_
    refine r_move rfl ?_
    refine LW.nil ?_
    refine thenE_norm (h7 _ _ ?_); clear h7; try clear K7
    refine CW.block ?_
    refine CW.loopR [1, 2, 24, 25] [7, 26] (fun m vs w' => ∃ (i : Nat) (u : Value) (g : Option Nat), vs = [u, .int .i64 i] ∧ i ≤ l.length ∧ m = l.length - i ∧ SH Non Any w w' [.R (Old w) v l, .O 3 u (dueL (l.take i) now lease) g]) (l.length) ?_ ?_
    · exact ⟨0, .slice none 0 0, none, rfl, by omega, by omega, H.addO (α := Int) 3⟩
    try clear H
    rintro n1 vs1 wL1 σ ⟨i, u, g, rfl, hi, rfl, H⟩
    simp only [setL, keepE, upd_get, ev, Nat.reduceEqDiff, ↓reduceIte]
    refine CW.seq (fun K8 h8 => ?_)
    refine CW.region ?_
    refine r_lss rfl rfl rfl ?_
    refine LW.nil ?_
    refine thenE_norm (h8 _ _ ?_); clear h8; try clear K8
    refine CW.seq (fun K9 h9 => ?_)
    refine CW.cond rfl (fun hc2 => ?_) (fun hc2 => ?_)
    · try simp only [decide_eq_true_eq, decide_eq_false_iff_not, Bool.and_eq_true, Bool.or_eq_true, Bool.and_eq_false_iff, Bool.or_eq_false_iff, Bool.not_eq_true', Bool.not_eq_false', beq_iff_eq, bne_iff_ne, ne_eq, Decidable.not_not] at hc2
      refine CW.skip ?_
      refine thenE_norm (h9 _ _ ?_); clear h9; try clear K9
      refine CW.seq (fun K10 h10 => ?_)
      refine CW.block ?_
      refine CW.seq (fun K11 h11 => ?_)
      obtain ⟨s, hs⟩ := get_of_lt (show i < l.length by omega)
      have hst := ht s (List.mem_of_getElem? hs)
      have hds := due_snoc now lease hs
      have hdl := due_len (l.take i) now lease
      have hdl2 : (l.take i).length ≤ l.length := by rw [List.length_take]; omega
      refine CW.region ?_
      refine r_indexAddrV rfl Try.underlying48 (by simp only [upd_get, ev, Nat.reduceEqDiff, ↓reduceIte] <;> rfl) rfl (by first | assumption | exact SH.rsR H (by (repeat first | exact At.here | apply At.there); done) | exact SH.rsO H (by (repeat first | exact At.here | apply At.there); done) | exact Rs.toH (by first | assumption | exact SH.rsR H (by (repeat first | exact At.here | apply At.there); done) | exact SH.rsO H (by (repeat first | exact At.here | apply At.there); done)) (by omega) | exact Rs.toL (by first | assumption | exact SH.rsR H (by (repeat first | exact At.here | apply At.there); done) | exact SH.rsO H (by (repeat first | exact At.here | apply At.there); done)) (by omega) | exact Rs.toLH (by first | assumption | exact SH.rsR H (by (repeat first | exact At.here | apply At.there); done) | exact SH.rsO H (by (repeat first | exact At.here | apply At.there); done)) (by omega) (by omega) | exact (Rs.nil : Rs Non _ _ _)) (by exact Try.sizeOf52) (by omega) (by omega) ?_
      refine r_loadA rfl Try.isAgg52 Try.sizeOf52 rfl (by first | exact SH.cells H (by (repeat first | exact At.here | apply At.there); done) | exact Rs.cells0 (by first | assumption | exact SH.rsR H (by (repeat first | exact At.here | apply At.there); done) | exact SH.rsO H (by (repeat first | exact At.here | apply At.there); done) | exact Rs.toH (by first | assumption | exact SH.rsR H (by (repeat first | exact At.here | apply At.there); done) | exact SH.rsO H (by (repeat first | exact At.here | apply At.there); done)) (by omega) | exact Rs.toL (by first | assumption | exact SH.rsR H (by (repeat first | exact At.here | apply At.there); done) | exact SH.rsO H (by (repeat first | exact At.here | apply At.there); done)) (by omega) | exact Rs.toLH (by first | assumption | exact SH.rsR H (by (repeat first | exact At.here | apply At.there); done) | exact SH.rsO H (by (repeat first | exact At.here | apply At.there); done)) (by omega) (by omega) | exact (Rs.nil : Rs Non _ _ _)) (by assumption)) (by rfl) ?_
      refine s_alloc (cs := [.int .i64 0, .int .i64 0, .int .i64 0]) H rfl Try.zeroValue52 rfl ?_
      clear H
      intro b6_2 w6_2 H
      try dsimp only [replC, List.cons_append, List.nil_append, List.append_nil, agg, cellsL, Value.cells, List.toList_toArray, List.set_cons_zero, List.set_cons_succ, spliceL, List.take_succ_cons, List.take_zero, List.drop_succ_cons, List.drop_zero, List.length_cons, List.length_nil, Nat.reduceAdd, Row.cells, Ses.L] at H
      refine s_storeA H Try.sizeOf52 rfl (by simp only [upd_get, ev, Nat.reduceEqDiff, ↓reduceIte] <;> rfl) (by simp only [cellsL, agg, List.toList_toArray, Row.cells, Ses.L] <;> rfl) (by rfl) (by first | rfl | exact Rs.oneC (by first | assumption | exact SH.rsR H (by (repeat first | exact At.here | apply At.there); done) | exact SH.rsO H (by (repeat first | exact At.here | apply At.there); done) | exact Rs.toH (by first | assumption | exact SH.rsR H (by (repeat first | exact At.here | apply At.there); done) | exact SH.rsO H (by (repeat first | exact At.here | apply At.there); done)) (by omega) | exact Rs.toL (by first | assumption | exact SH.rsR H (by (repeat first | exact At.here | apply At.there); done) | exact SH.rsO H (by (repeat first | exact At.here | apply At.there); done)) (by omega) | exact Rs.toLH (by first | assumption | exact SH.rsR H (by (repeat first | exact At.here | apply At.there); done) | exact SH.rsO H (by (repeat first | exact At.here | apply At.there); done)) (by omega) (by omega) | exact (Rs.nil : Rs Non _ _ _)) | (simp only [List.all_cons, List.all_nil, Bool.and_true, Bool.and_eq_true, Row.cells, Ses.L]; (repeat' constructor) <;> first | rfl | exact Rs.oneC (by first | assumption | exact SH.rsR H (by (repeat first | exact At.here | apply At.there); done) | exact SH.rsO H (by (repeat first | exact At.here | apply At.there); done) | exact Rs.toH (by first | assumption | exact SH.rsR H (by (repeat first | exact At.here | apply At.there); done) | exact SH.rsO H (by (repeat first | exact At.here | apply At.there); done)) (by omega) | exact Rs.toL (by first | assumption | exact SH.rsR H (by (repeat first | exact At.here | apply At.there); done) | exact SH.rsO H (by (repeat first | exact At.here | apply At.there); done)) (by omega) | exact Rs.toLH (by first | assumption | exact SH.rsR H (by (repeat first | exact At.here | apply At.there); done) | exact SH.rsO H (by (repeat first | exact At.here | apply At.there); done)) (by omega) (by omega) | exact (Rs.nil : Rs Non _ _ _)))) (by (repeat first | exact At.here | apply At.there); done) (by first | (simp; done) | decide | (show _ ≤ _; decide)) ?_
      clear H
      intro w6_3 H
      try dsimp only [replC, List.cons_append, List.nil_append, List.append_nil, agg, cellsL, Value.cells, List.toList_toArray, List.set_cons_zero, List.set_cons_succ, spliceL, List.take_succ_cons, List.take_zero, List.drop_succ_cons, List.drop_zero, List.length_cons, List.length_nil, Nat.reduceAdd, Row.cells, Ses.L] at H
      refine LW.nil ?_
      refine thenE_norm (h11 _ _ ?_); clear h11; try clear K11
      refine CW.seq (fun K12 h12 => ?_)
      refine CW.region ?_
      refine r_move rfl ?_
      refine r_fieldAddrO rfl Try.underlying52 rfl Try.sizeOf3 (by decide) (show _ = 2 from rfl) rfl ?_
      refine r_load rfl Try.isAgg3 rfl (by first | exact SH.cellB H (by (repeat first | exact At.here | apply At.there); done) (by rfl) | exact SH.cellI H (by (repeat first | exact At.here | apply At.there); done) (by rfl) | exact Rs.cell (by first | assumption | exact SH.rsR H (by (repeat first | exact At.here | apply At.there); done) | exact SH.rsO H (by (repeat first | exact At.here | apply At.there); done) | exact Rs.toH (by first | assumption | exact SH.rsR H (by (repeat first | exact At.here | apply At.there); done) | exact SH.rsO H (by (repeat first | exact At.here | apply At.there); done)) (by omega) | exact Rs.toL (by first | assumption | exact SH.rsR H (by (repeat first | exact At.here | apply At.there); done) | exact SH.rsO H (by (repeat first | exact At.here | apply At.there); done)) (by omega) | exact Rs.toLH (by first | assumption | exact SH.rsR H (by (repeat first | exact At.here | apply At.there); done) | exact SH.rsO H (by (repeat first | exact At.here | apply At.there); done)) (by omega) (by omega) | exact (Rs.nil : Rs Non _ _ _)) (by assumption) (by rfl) | exact Rs.cell0 (by first | assumption | exact SH.rsR H (by (repeat first | exact At.here | apply At.there); done) | exact SH.rsO H (by (repeat first | exact At.here | apply At.there); done) | exact Rs.toH (by first | assumption | exact SH.rsR H (by (repeat first | exact At.here | apply At.there); done) | exact SH.rsO H (by (repeat first | exact At.here | apply At.there); done)) (by omega) | exact Rs.toL (by first | assumption | exact SH.rsR H (by (repeat first | exact At.here | apply At.there); done) | exact SH.rsO H (by (repeat first | exact At.here | apply At.there); done)) (by omega) | exact Rs.toLH (by first | assumption | exact SH.rsR H (by (repeat first | exact At.here | apply At.there); done) | exact SH.rsO H (by (repeat first | exact At.here | apply At.there); done)) (by omega) (by omega) | exact (Rs.nil : Rs Non _ _ _)) (by assumption) (by rfl) | assumption) ?_
      refine r_sub rfl rfl rfl (wr_i64 (by omega) (by omega)) ?_
      refine r_move rfl ?_
      refine r_geq rfl rfl rfl ?_
      refine LW.nil ?_
      refine thenE_norm ?_
      refine cut (K := K12) [1, 2, 7, 9, 24, 25, 26, 35] (fun σ => ?_)
      simp only [setL, keepE, upd_get, ev, Nat.reduceEqDiff, ↓reduceIte]
      refine h12 _ _ ?_; clear h12; try clear K12
      refine CW.cond rfl (fun hc3 => ?_) (fun hc3 => ?_)
      · try simp only [decide_eq_true_eq, decide_eq_false_iff_not, Bool.and_eq_true, Bool.or_eq_true, Bool.and_eq_false_iff, Bool.or_eq_false_iff, Bool.not_eq_true', Bool.not_eq_false', beq_iff_eq, bne_iff_ne, ne_eq, Decidable.not_not] at hc3
        refine CW.region ?_
        refine r_move rfl ?_
        refine r_fieldAddrO rfl Try.underlying52 rfl Try.sizeOf3 (by decide) (show _ = 0 from rfl) rfl ?_
        refine r_load rfl Try.isAgg3 rfl (by first | exact SH.cellB H (by (repeat first | exact At.here | apply At.there); done) (by rfl) | exact SH.cellI H (by (repeat first | exact At.here | apply At.there); done) (by rfl) | exact Rs.cell (by first | assumption | exact SH.rsR H (by (repeat first | exact At.here | apply At.there); done) | exact SH.rsO H (by (repeat first | exact At.here | apply At.there); done) | exact Rs.toH (by first | assumption | exact SH.rsR H (by (repeat first | exact At.here | apply At.there); done) | exact SH.rsO H (by (repeat first | exact At.here | apply At.there); done)) (by omega) | exact Rs.toL (by first | assumption | exact SH.rsR H (by (repeat first | exact At.here | apply At.there); done) | exact SH.rsO H (by (repeat first | exact At.here | apply At.there); done)) (by omega) | exact Rs.toLH (by first | assumption | exact SH.rsR H (by (repeat first | exact At.here | apply At.there); done) | exact SH.rsO H (by (repeat first | exact At.here | apply At.there); done)) (by omega) (by omega) | exact (Rs.nil : Rs Non _ _ _)) (by assumption) (by rfl) | exact Rs.cell0 (by first | assumption | exact SH.rsR H (by (repeat first | exact At.here | apply At.there); done) | exact SH.rsO H (by (repeat first | exact At.here | apply At.there); done) | exact Rs.toH (by first | assumption | exact SH.rsR H (by (repeat first | exact At.here | apply At.there); done) | exact SH.rsO H (by (repeat first | exact At.here | apply At.there); done)) (by omega) | exact Rs.toL (by first | assumption | exact SH.rsR H (by (repeat first | exact At.here | apply At.there); done) | exact SH.rsO H (by (repeat first | exact At.here | apply At.there); done)) (by omega) | exact Rs.toLH (by first | assumption | exact SH.rsR H (by (repeat first | exact At.here | apply At.there); done) | exact SH.rsO H (by (repeat first | exact At.here | apply At.there); done)) (by omega) (by omega) | exact (Rs.nil : Rs Non _ _ _)) (by assumption) (by rfl) | assumption) ?_
        refine r_buildSlice rfl Try.underlying25 Try.sizeOf3 Try.zeroValue3 rfl rfl rfl (by simp only [List.map_cons, List.map_nil, List.toList_toArray, List.foldl_cons, List.foldl_nil, List.replicate_succ, List.replicate_zero, List.set_cons_zero, List.set_cons_succ, upd_get, ev, Nat.reduceEqDiff, ↓reduceIte] <;> rfl) ?_
        intro b8_3 w8_3 hb8_3 hs8_3 hE8_3 hB8_3
        replace H := SH.call H (SH.fromB hE8_3 hb8_3 hs8_3 hB8_3)
        clear hb8_3 hs8_3 hE8_3 hB8_3
        try dsimp only [replC, List.cons_append, List.nil_append, List.append_nil, agg, cellsL, Value.cells, List.toList_toArray, List.set_cons_zero, List.set_cons_succ, spliceL, List.take_succ_cons, List.take_zero, List.drop_succ_cons, List.drop_zero, List.length_cons, List.length_nil, Nat.reduceAdd, Row.cells, Ses.L] at H
        replace H := SH.row (b := b8_3) (xs := ([_] : List Int)) (n := 1) (cap := 1) H (by (repeat first | exact At.here | apply At.there); done) (by rfl) (by intro x hx; first | rfl | (simp at hx; done) | (simp only [List.mem_cons, List.not_mem_nil, or_false] at hx; rcases hx with rfl <;> first | rfl | exact (by first | rfl | exact Rs.oneC (by first | assumption | exact SH.rsR H (by (repeat first | exact At.here | apply At.there); done) | exact SH.rsO H (by (repeat first | exact At.here | apply At.there); done) | exact Rs.toH (by first | assumption | exact SH.rsR H (by (repeat first | exact At.here | apply At.there); done) | exact SH.rsO H (by (repeat first | exact At.here | apply At.there); done)) (by omega) | exact Rs.toL (by first | assumption | exact SH.rsR H (by (repeat first | exact At.here | apply At.there); done) | exact SH.rsO H (by (repeat first | exact At.here | apply At.there); done)) (by omega) | exact Rs.toLH (by first | assumption | exact SH.rsR H (by (repeat first | exact At.here | apply At.there); done) | exact SH.rsO H (by (repeat first | exact At.here | apply At.there); done)) (by omega) (by omega) | exact (Rs.nil : Rs Non _ _ _)) | (simp only [List.all_cons, List.all_nil, Bool.and_true, Bool.and_eq_true, Row.cells, Ses.L]; (repeat' constructor) <;> first | rfl | exact Rs.oneC (by first | assumption | exact SH.rsR H (by (repeat first | exact At.here | apply At.there); done) | exact SH.rsO H (by (repeat first | exact At.here | apply At.there); done) | exact Rs.toH (by first | assumption | exact SH.rsR H (by (repeat first | exact At.here | apply At.there); done) | exact SH.rsO H (by (repeat first | exact At.here | apply At.there); done)) (by omega) | exact Rs.toL (by first | assumption | exact SH.rsR H (by (repeat first | exact At.here | apply At.there); done) | exact SH.rsO H (by (repeat first | exact At.here | apply At.there); done)) (by omega) | exact Rs.toLH (by first | assumption | exact SH.rsR H (by (repeat first | exact At.here | apply At.there); done) | exact SH.rsO H (by (repeat first | exact At.here | apply At.there); done)) (by omega) (by omega) | exact (Rs.nil : Rs Non _ _ _)))))) (by rfl) rfl (by decide)
        try dsimp only [replC, List.cons_append, List.nil_append, List.append_nil, agg, cellsL, Value.cells, List.toList_toArray, List.set_cons_zero, List.set_cons_succ, spliceL, List.take_succ_cons, List.take_zero, List.drop_succ_cons, List.drop_zero, List.length_cons, List.length_nil, Nat.reduceAdd, Row.cells, Ses.L] at H
        first
          | refine s_append H rfl Try.underlying25 Try.underlying25 Try.type3 rfl (by simp only [upd_get, ev, Nat.reduceEqDiff, ↓reduceIte] <;> rfl) (by simp only [upd_get, ev, Nat.reduceEqDiff, ↓reduceIte] <;> rfl) (by (repeat first | exact At.here | apply At.there); done) (by first | assumption | exact SH.rsR H (by (repeat first | exact At.here | apply At.there); done) | exact SH.rsO H (by (repeat first | exact At.here | apply At.there); done) | exact Rs.toH (by first | assumption | exact SH.rsR H (by (repeat first | exact At.here | apply At.there); done) | exact SH.rsO H (by (repeat first | exact At.here | apply At.there); done)) (by omega) | exact Rs.toL (by first | assumption | exact SH.rsR H (by (repeat first | exact At.here | apply At.there); done) | exact SH.rsO H (by (repeat first | exact At.here | apply At.there); done)) (by omega) | exact Rs.toLH (by first | assumption | exact SH.rsR H (by (repeat first | exact At.here | apply At.there); done) | exact SH.rsO H (by (repeat first | exact At.here | apply At.there); done)) (by omega) (by omega) | exact (Rs.nil : Rs Non _ _ _)) (by rfl) (by rfl) (by first | omega | (simp only [Try.t3, List.length_append, List.length_cons, List.length_nil, List.length_map, maxLen]; omega) | (simp [Try.t3, maxLen]; omega)) (by first | omega | (simp only [Try.t3, List.length_append, List.length_cons, List.length_nil, List.length_map, maxLen]; omega) | (simp [Try.t3, maxLen]; omega)) ?_
          | refine s_appendNil H rfl Try.underlying25 Try.underlying25 Try.type3 rfl rfl (by simp only [upd_get, ev, Nat.reduceEqDiff, ↓reduceIte] <;> rfl) (by first | assumption | exact SH.rsR H (by (repeat first | exact At.here | apply At.there); done) | exact SH.rsO H (by (repeat first | exact At.here | apply At.there); done) | exact Rs.toH (by first | assumption | exact SH.rsR H (by (repeat first | exact At.here | apply At.there); done) | exact SH.rsO H (by (repeat first | exact At.here | apply At.there); done)) (by omega) | exact Rs.toL (by first | assumption | exact SH.rsR H (by (repeat first | exact At.here | apply At.there); done) | exact SH.rsO H (by (repeat first | exact At.here | apply At.there); done)) (by omega) | exact Rs.toLH (by first | assumption | exact SH.rsR H (by (repeat first | exact At.here | apply At.there); done) | exact SH.rsO H (by (repeat first | exact At.here | apply At.there); done)) (by omega) (by omega) | exact (Rs.nil : Rs Non _ _ _)) (by rfl) (by rfl) (by first | omega | (simp only [Try.t3, List.length_append, List.length_cons, List.length_nil, List.length_map, maxLen]; omega) | (simp [Try.t3, maxLen]; omega)) ?_
        clear H
        intro v8_4 w8_4 g8_4 H hN8_4
        try dsimp only [replC, List.cons_append, List.nil_append, List.append_nil, agg, cellsL, Value.cells, List.toList_toArray, List.set_cons_zero, List.set_cons_succ, spliceL, List.take_succ_cons, List.take_zero, List.drop_succ_cons, List.drop_zero, List.length_cons, List.length_nil, Nat.reduceAdd, Row.cells, Ses.L] at H
        refine r_assign rfl ?_
        refine LW.nil ?_
        refine blockE_norm ?_
        refine thenE_norm (h10 _ _ ?_); clear h10; try clear K10
        refine CW.region ?_
        refine r_add rfl rfl rfl (wr_i64 (by omega) (by omega)) ?_
        refine r_move rfl ?_
        refine LW.nil ?_
        refine thenE_norm ⟨rfl, ?_⟩
        exact ⟨l.length - (i + 1), by omega, i + 1, _, _, rfl, by omega, rfl, by rw [hds, if_pos (by omega)]; exact SH.sel H [0, 1] (by decide) rfl⟩
      · try simp only [decide_eq_true_eq, decide_eq_false_iff_not, Bool.and_eq_true, Bool.or_eq_true, Bool.and_eq_false_iff, Bool.or_eq_false_iff, Bool.not_eq_true', Bool.not_eq_false', beq_iff_eq, bne_iff_ne, ne_eq, Decidable.not_not] at hc3
        refine CW.skip ?_
        refine blockE_norm ?_
        refine thenE_norm (h10 _ _ ?_); clear h10; try clear K10
        refine CW.region ?_
        refine r_add rfl rfl rfl (wr_i64 (by omega) (by omega)) ?_
        refine r_move rfl ?_
        refine LW.nil ?_
        refine thenE_norm ⟨rfl, ?_⟩
        exact ⟨l.length - (i + 1), by omega, i + 1, _, _, rfl, by omega, rfl, by rw [hds, if_neg (by omega), List.append_nil]; exact SH.sel H [0, 1] (by decide) rfl⟩
    · try simp only [decide_eq_true_eq, decide_eq_false_iff_not, Bool.and_eq_true, Bool.or_eq_true, Bool.and_eq_false_iff, Bool.or_eq_false_iff, Bool.not_eq_true', Bool.not_eq_false', beq_iff_eq, bne_iff_ne, ne_eq, Decidable.not_not] at hc2
      refine CW.exit (thenE_exit (thenE_exit (blockE_hit ?_)))
      refine thenE_norm (h6 _ _ ?_); clear h6; try clear K6
      refine CW.seq (fun K13 h13 => ?_)
      refine CW.region ?_
      refine r_move rfl ?_
      refine r_assign rfl ?_
      refine LW.nil ?_
      refine thenE_norm (h13 _ _ ?_); clear h13; try clear K13
      refine CW.ret (ret1 Try.results25 (by simp only [upd_get, ev, Nat.reduceEqDiff, ↓reduceIte]; rfl) ?_)
      obtain rfl : i = l.length := by omega
      rw [List.take_length] at H
      rw [dueM, if_neg (by unfold badT; omega)]
      exact ⟨_, _, rfl, (SH.give (SH.sel H [1] (by decide) rfl) (List.Sublist.refl _) (by repeat first | exact trivial | refine ⟨trivial, ?_⟩))⟩
end Go.Proofs.Ytcmnhneigojpoaa
