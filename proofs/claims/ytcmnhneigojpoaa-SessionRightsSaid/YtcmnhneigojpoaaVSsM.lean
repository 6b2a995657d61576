/-
  The walks of layer 6's laws, the second part: who is due; what opens nothing.
-/
import Derived.Test.YtcmnhneigojpoaaVSsL
namespace Go.Proofs.Ytcmnhneigojpoaa
set_option linter.unusedSimpArgs false
set_option linter.unusedVariables false
set_option maxRecDepth 20000
open Go.V Go.RowKit Go.ChangeShapes Go.WideShapes

theorem due_iff {l : List Ses} {t d c : Int} (hb : ¬ badT t d) : c ∈ dueM l t d ↔ ∃ s ∈ l, d ≤ t - s.renewed ∧ s.client = c := by
  rw [dueM, if_neg hb, dueL]
  simp only [List.mem_map, List.mem_filter, decide_eq_true_eq]
  constructor
  · rintro ⟨s, ⟨h1, h2⟩, h3⟩; exact ⟨s, h1, h2, h3⟩
  · rintro ⟨s, h1, h2, h3⟩; exact ⟨s, ⟨h1, h2⟩, h3⟩
theorem same_of {l : List Ses} (h : okS l) {x y : Ses} (hx : x ∈ l) (hy : y ∈ l) (hc : x.client = y.client) : x = y := by
  have h1 := find_of_mem h hx
  rw [hc, find_of_mem h hy] at h1
  exact (Prod.mk.inj h1).1.symm
theorem due_le (l : List Ses) (t d : Int) : (dueM l t d).length ≤ l.length := by
  rw [dueM]
  split
  · simp
  · exact due_len _ _ _
theorem due_own {l : List Ses} {t d : Int} {s : Ses} (h : okS l) (hs : s ∈ l) (hb : ¬ badT t d) : s.client ∈ dueM l t d ↔ d ≤ t - s.renewed := by
  refine ⟨fun hm => ?_, fun hd => (due_iff hb).2 ⟨s, hs, hd, rfl⟩⟩
  obtain ⟨x, hx, hd, hc⟩ := (due_iff hb).1 hm
  rw [← same_of h hx hs hc]
  exact hd
theorem due_new0 {l : List Ses} {c t d : Int} (hb : ¬ badT (t + d - 1) d) : decide (c ∈ dueM (newS l c t) (t + d - 1) d) = false := by
  refine decide_eq_false (fun hm => ?_)
  obtain ⟨x, hx, hd, hc⟩ := (due_iff hb).1 hm
  obtain ⟨y, hy, rfl⟩ := List.mem_map.1 hx
  split at hd
  · simp only [renewed] at hd
    omega
  · rename_i hq
    rw [if_neg hq] at hc
    exact hq hc
theorem due_new1 {l : List Ses} {c t d : Int} (hb : ¬ badT (t + d) d) (hf : (findS l c).2 = true) (hs : ∀ s ∈ l, s.num ≤ 58 ∧ s.renewed ≤ 255) (ht : 255 ≤ t) : decide (c ∈ dueM (newS l c t) (t + d) d) = true := by
  obtain ⟨h1, h2⟩ := find_some hf
  refine decide_eq_true ((due_iff hb).2 ⟨renewed (findS l c).1 t, List.mem_map.2 ⟨_, h1, if_pos h2⟩, ?_, h2⟩)
  have := hs _ h1
  simp only [renewed]
  omega
set_option maxHeartbeats 4000000 in
theorem SessionDue_c {F : Nat → Prop} {v : Value} {ns : List UInt8} (now lease more client : Int) (w : World) (hv : Rs F w v ns) (hb1 : 0 ≤ now) (hb2 : now < 65536) (hb3 : 0 ≤ lease) (hb4 : lease < 256) (hb5 : 0 ≤ more) (hb6 : more < 256) (hb7 : 0 ≤ client) (hb8 : client < 256) :
    Calls Try.prog 7 #[v, .int .u16 now, .int .u8 lease, .int .u8 more, .int .u8 client] w fun e w' => e = .returned (.bool true) ∧ Ext0 w w' := by
  have H := (SH.start w).arg hv
  have h63 := hv.len63
  refine calls_of_CW Try.func7 rfl Try.ntmps7 (Nat.le_of_ble_eq_true rfl) ?_
  simp only [argE, argFrom, Nat.reduceAdd]
  refine CW.seq (fun K1 h1 => ?_)
  refine CW.region ?_
  refine r_assign rfl ?_
  refine LW.nil ?_
  refine thenE_norm (h1 _ _ ?_); clear h1; try clear K1
  refine CW.seq (fun K2 h2 => ?_)
  refine CW.region ?_
  refine r_move rfl ?_
  refine r_call rfl Try.call24 (by simp only [List.map_cons, List.map_nil, List.map_toArray, List.toList_toArray, upd_get, ev, Nat.reduceEqDiff, ↓reduceIte] <;> rfl) (Sessions_c _ (by first | assumption | exact SH.rsR H (by (repeat first | exact At.here | apply At.there); done) | exact SH.rsO H (by (repeat first | exact At.here | apply At.there); done) | exact Rs.toH (by first | assumption | exact SH.rsR H (by (repeat first | exact At.here | apply At.there); done) | exact SH.rsO H (by (repeat first | exact At.here | apply At.there); done)) (by omega) | exact Rs.toL (by first | assumption | exact SH.rsR H (by (repeat first | exact At.here | apply At.there); done) | exact SH.rsO H (by (repeat first | exact At.here | apply At.there); done)) (by omega) | exact Rs.toLH (by first | assumption | exact SH.rsR H (by (repeat first | exact At.here | apply At.there); done) | exact SH.rsO H (by (repeat first | exact At.here | apply At.there); done)) (by omega) (by omega) | exact (Rs.nil : Rs Non _ _ _))) ?_
  rintro _ w1_1 ⟨v1_1, g1_1, l1_1, rfl, hok1_1, hl51_1, hsm1_1, K⟩
  refine ⟨_, rfl, ?_⟩
  replace H := SH.call H K
  clear K
  try dsimp only [replC, List.cons_append, List.nil_append, List.append_nil, agg, cellsL, Value.cells, List.toList_toArray, List.set_cons_zero, List.set_cons_succ, spliceL, List.take_succ_cons, List.take_zero, List.drop_succ_cons, List.drop_zero, List.length_cons, List.length_nil, Nat.reduceAdd, Row.cells, Ses.L] at H
  have hup := hok1_1.up
  have ht := hok1_1.times
  have hg1 : ¬ badT now (1 + lease) := by unfold badT; omega
  have hg2 : ¬ badT (now + more) (1 + lease) := by unfold badT; omega
  refine r_assign rfl ?_
  refine LW.nil ?_
  refine thenE_norm (h2 _ _ ?_); clear h2; try clear K2
  refine CW.seq (fun K3 h3 => ?_)
  refine CW.region ?_
  refine r_move rfl ?_
  refine r_convI rfl Try.underlying46 Try.underlying3 rfl (wr_i64 (by omega) (by omega)) ?_
  refine r_move rfl ?_
  refine r_convI rfl Try.underlying5 Try.underlying3 rfl (wr_i64 (by omega) (by omega)) ?_
  refine r_add rfl rfl rfl (wr_i64 (by omega) (by omega)) ?_
  refine r_assign rfl ?_
  refine r_assign rfl ?_
  refine LW.nil ?_
  refine thenE_norm ?_
  refine cut (K := K3) [3, 4, 11, 12, 13] (fun σ => ?_)
  simp only [setL, keepE, upd_get, ev, Nat.reduceEqDiff, ↓reduceIte]
  refine h3 _ _ ?_; clear h3; try clear K3
  refine CW.seq (fun K4 h4 => ?_)
  refine CW.region ?_
  refine r_move rfl ?_
  refine r_move rfl ?_
  refine r_move rfl ?_
  refine r_call rfl Try.call25 (by simp only [List.map_cons, List.map_nil, List.map_toArray, List.toList_toArray, upd_get, ev, Nat.reduceEqDiff, ↓reduceIte] <;> rfl) (Due_c _ _ _ (by first | assumption | exact SH.rsR H (by (repeat first | exact At.here | apply At.there); done) | exact SH.rsO H (by (repeat first | exact At.here | apply At.there); done) | exact Rs.toH (by first | assumption | exact SH.rsR H (by (repeat first | exact At.here | apply At.there); done) | exact SH.rsO H (by (repeat first | exact At.here | apply At.there); done)) (by omega) | exact Rs.toL (by first | assumption | exact SH.rsR H (by (repeat first | exact At.here | apply At.there); done) | exact SH.rsO H (by (repeat first | exact At.here | apply At.there); done)) (by omega) | exact Rs.toLH (by first | assumption | exact SH.rsR H (by (repeat first | exact At.here | apply At.there); done) | exact SH.rsO H (by (repeat first | exact At.here | apply At.there); done)) (by omega) (by omega) | exact (Rs.nil : Rs Non _ _ _)) (by first | omega | (simp only [List.length_append, List.length_cons, List.length_nil]; omega) | (simp; omega)) ht) ?_
  rintro _ w3_3 ⟨v3_3, g3_3, rfl, K⟩
  refine ⟨_, rfl, ?_⟩
  replace H := SH.call H K
  clear K
  try dsimp only [replC, List.cons_append, List.nil_append, List.append_nil, agg, cellsL, Value.cells, List.toList_toArray, List.set_cons_zero, List.set_cons_succ, spliceL, List.take_succ_cons, List.take_zero, List.drop_succ_cons, List.drop_zero, List.length_cons, List.length_nil, Nat.reduceAdd, Row.cells, Ses.L] at H
  refine r_assign rfl ?_
  refine LW.nil ?_
  refine thenE_norm (h4 _ _ ?_); clear h4; try clear K4
  refine CW.seq (fun K5 h5 => ?_)
  refine CW.region ?_
  refine r_move rfl ?_
  refine r_move rfl ?_
  refine r_move rfl ?_
  refine r_convI rfl Try.underlying5 Try.underlying3 rfl (wr_i64 (by omega) (by omega)) ?_
  refine r_add rfl rfl rfl (wr_i64 (by omega) (by omega)) ?_
  refine r_move rfl ?_
  refine r_call rfl Try.call25 (by simp only [List.map_cons, List.map_nil, List.map_toArray, List.toList_toArray, upd_get, ev, Nat.reduceEqDiff, ↓reduceIte] <;> rfl) (Due_c _ _ _ (by first | assumption | exact SH.rsR H (by (repeat first | exact At.here | apply At.there); done) | exact SH.rsO H (by (repeat first | exact At.here | apply At.there); done) | exact Rs.toH (by first | assumption | exact SH.rsR H (by (repeat first | exact At.here | apply At.there); done) | exact SH.rsO H (by (repeat first | exact At.here | apply At.there); done)) (by omega) | exact Rs.toL (by first | assumption | exact SH.rsR H (by (repeat first | exact At.here | apply At.there); done) | exact SH.rsO H (by (repeat first | exact At.here | apply At.there); done)) (by omega) | exact Rs.toLH (by first | assumption | exact SH.rsR H (by (repeat first | exact At.here | apply At.there); done) | exact SH.rsO H (by (repeat first | exact At.here | apply At.there); done)) (by omega) (by omega) | exact (Rs.nil : Rs Non _ _ _)) (by first | omega | (simp only [List.length_append, List.length_cons, List.length_nil]; omega) | (simp; omega)) ht) ?_
  rintro _ w4_6 ⟨v4_6, g4_6, rfl, K⟩
  refine ⟨_, rfl, ?_⟩
  replace H := SH.call H K
  clear K
  try dsimp only [replC, List.cons_append, List.nil_append, List.append_nil, agg, cellsL, Value.cells, List.toList_toArray, List.set_cons_zero, List.set_cons_succ, spliceL, List.take_succ_cons, List.take_zero, List.drop_succ_cons, List.drop_zero, List.length_cons, List.length_nil, Nat.reduceAdd, Row.cells, Ses.L] at H
  refine r_assign rfl ?_
  refine LW.nil ?_
  refine thenE_norm ?_
  refine cut (K := K5) [4, 11, 12, 13, 14, 15] (fun σ => ?_)
  simp only [setL, keepE, upd_get, ev, Nat.reduceEqDiff, ↓reduceIte]
  refine h5 _ _ ?_; clear h5; try clear K5
  refine CW.seq (fun K6 h6 => ?_)
  refine CW.seq (fun K7 h7 => ?_)
  refine CW.region ?_
  refine r_assign rfl ?_
  refine LW.nil ?_
  refine thenE_norm (h7 _ _ ?_); clear h7; try clear K7
  refine CW.block ?_
  refine CW.loopR [4, 11, 12, 13, 14, 15] [16] (fun m vs w' => ∃ i : Nat, vs = [.int .i64 i] ∧ i ≤ l1_1.length ∧ m = l1_1.length - i ∧ SH Non Any w w' [.O 52 v1_1 l1_1 g1_1, .O 3 v3_3 (dueM l1_1 now (1 + lease)) g3_3, .O 3 v4_6 (dueM l1_1 (now + more) (1 + lease)) g4_6]) (l1_1.length) ?_ ?_
  · exact ⟨0, rfl, by omega, by omega, (SH.sel H [1, 2, 3] (by decide) (by rfl))⟩
  try clear H
  rintro n1 vs1 wL1 σ ⟨i, rfl, hi, rfl, H⟩
  simp only [setL, keepE, upd_get, ev, Nat.reduceEqDiff, ↓reduceIte]
  refine CW.seq (fun K8 h8 => ?_)
  refine CW.seq (fun K9 h9 => ?_)
  refine CW.region ?_
  refine r_move rfl ?_
  refine r_move rfl ?_
  first
    | refine r_lenV rfl Try.underlying48 (by simp only [upd_get, ev, Nat.reduceEqDiff, ↓reduceIte] <;> rfl) (by first | assumption | exact SH.rsR H (by (repeat first | exact At.here | apply At.there); done) | exact SH.rsO H (by (repeat first | exact At.here | apply At.there); done) | exact Rs.toH (by first | assumption | exact SH.rsR H (by (repeat first | exact At.here | apply At.there); done) | exact SH.rsO H (by (repeat first | exact At.here | apply At.there); done)) (by omega) | exact Rs.toL (by first | assumption | exact SH.rsR H (by (repeat first | exact At.here | apply At.there); done) | exact SH.rsO H (by (repeat first | exact At.here | apply At.there); done)) (by omega) | exact Rs.toLH (by first | assumption | exact SH.rsR H (by (repeat first | exact At.here | apply At.there); done) | exact SH.rsO H (by (repeat first | exact At.here | apply At.there); done)) (by omega) (by omega) | exact (Rs.nil : Rs Non _ _ _)) ?_
    | refine r_len rfl Try.underlying48 rfl ?_
  refine r_lss rfl rfl rfl ?_
  refine LW.nil ?_
  refine thenE_norm (h9 _ _ ?_); clear h9; try clear K9
  refine CW.cond rfl (fun hc1 => ?_) (fun hc1 => ?_)
  · try simp only [decide_eq_true_eq, decide_eq_false_iff_not, Bool.and_eq_true, Bool.or_eq_true, Bool.and_eq_false_iff, Bool.or_eq_false_iff, Bool.not_eq_true', Bool.not_eq_false', beq_iff_eq, bne_iff_ne, ne_eq, Decidable.not_not] at hc1
    refine CW.skip ?_
    refine thenE_norm (h8 _ _ ?_); clear h8; try clear K8
    refine CW.seq (fun K10 h10 => ?_)
    refine CW.block ?_
    refine CW.seq (fun K11 h11 => ?_)
    obtain ⟨s, hs⟩ := get_of_lt (show i < l1_1.length by omega)
    have hgs := hok1_1.1 s (List.mem_of_getElem? hs)
    unfold goodS at hgs
    have hd1 := due_own hok1_1 (List.mem_of_getElem? hs) hg1
    have hd2 := due_own hok1_1 (List.mem_of_getElem? hs) hg2
    refine CW.region ?_
    refine r_move rfl ?_
    refine r_move rfl ?_
    refine r_move rfl ?_
    refine r_indexAddrV rfl Try.underlying48 (by simp only [upd_get, ev, Nat.reduceEqDiff, ↓reduceIte] <;> rfl) rfl (by first | assumption | exact SH.rsR H (by (repeat first | exact At.here | apply At.there); done) | exact SH.rsO H (by (repeat first | exact At.here | apply At.there); done) | exact Rs.toH (by first | assumption | exact SH.rsR H (by (repeat first | exact At.here | apply At.there); done) | exact SH.rsO H (by (repeat first | exact At.here | apply At.there); done)) (by omega) | exact Rs.toL (by first | assumption | exact SH.rsR H (by (repeat first | exact At.here | apply At.there); done) | exact SH.rsO H (by (repeat first | exact At.here | apply At.there); done)) (by omega) | exact Rs.toLH (by first | assumption | exact SH.rsR H (by (repeat first | exact At.here | apply At.there); done) | exact SH.rsO H (by (repeat first | exact At.here | apply At.there); done)) (by omega) (by omega) | exact (Rs.nil : Rs Non _ _ _)) (by exact Try.sizeOf52) (by omega) (by omega) ?_
    refine r_fieldAddrO rfl Try.underlying52 rfl Try.sizeOf3 (by decide) (show _ + 2 = _ from rfl) rfl ?_
    refine r_load rfl Try.isAgg3 rfl (by first | exact SH.cellB H (by (repeat first | exact At.here | apply At.there); done) (by rfl) | exact SH.cellI H (by (repeat first | exact At.here | apply At.there); done) (by rfl) | exact Rs.cell (by first | assumption | exact SH.rsR H (by (repeat first | exact At.here | apply At.there); done) | exact SH.rsO H (by (repeat first | exact At.here | apply At.there); done) | exact Rs.toH (by first | assumption | exact SH.rsR H (by (repeat first | exact At.here | apply At.there); done) | exact SH.rsO H (by (repeat first | exact At.here | apply At.there); done)) (by omega) | exact Rs.toL (by first | assumption | exact SH.rsR H (by (repeat first | exact At.here | apply At.there); done) | exact SH.rsO H (by (repeat first | exact At.here | apply At.there); done)) (by omega) | exact Rs.toLH (by first | assumption | exact SH.rsR H (by (repeat first | exact At.here | apply At.there); done) | exact SH.rsO H (by (repeat first | exact At.here | apply At.there); done)) (by omega) (by omega) | exact (Rs.nil : Rs Non _ _ _)) (by assumption) (by rfl) | exact Rs.cell0 (by first | assumption | exact SH.rsR H (by (repeat first | exact At.here | apply At.there); done) | exact SH.rsO H (by (repeat first | exact At.here | apply At.there); done) | exact Rs.toH (by first | assumption | exact SH.rsR H (by (repeat first | exact At.here | apply At.there); done) | exact SH.rsO H (by (repeat first | exact At.here | apply At.there); done)) (by omega) | exact Rs.toL (by first | assumption | exact SH.rsR H (by (repeat first | exact At.here | apply At.there); done) | exact SH.rsO H (by (repeat first | exact At.here | apply At.there); done)) (by omega) | exact Rs.toLH (by first | assumption | exact SH.rsR H (by (repeat first | exact At.here | apply At.there); done) | exact SH.rsO H (by (repeat first | exact At.here | apply At.there); done)) (by omega) (by omega) | exact (Rs.nil : Rs Non _ _ _)) (by assumption) (by rfl) | assumption) ?_
    refine r_sub rfl rfl rfl (wr_i64 (by omega) (by omega)) ?_
    refine r_move rfl ?_
    refine r_geq rfl rfl rfl ?_
    refine r_assign rfl ?_
    refine LW.nil ?_
    refine thenE_norm ?_
    refine cut (K := K11) [4, 11, 12, 13, 14, 15, 16, 17] (fun σ => ?_)
    simp only [setL, keepE, upd_get, ev, Nat.reduceEqDiff, ↓reduceIte]
    refine h11 _ _ ?_; clear h11; try clear K11
    refine CW.seq (fun K12 h12 => ?_)
    refine CW.region ?_
    refine r_move rfl ?_
    refine r_move rfl ?_
    refine r_move rfl ?_
    refine r_indexAddrV rfl Try.underlying48 (by simp only [upd_get, ev, Nat.reduceEqDiff, ↓reduceIte] <;> rfl) rfl (by first | assumption | exact SH.rsR H (by (repeat first | exact At.here | apply At.there); done) | exact SH.rsO H (by (repeat first | exact At.here | apply At.there); done) | exact Rs.toH (by first | assumption | exact SH.rsR H (by (repeat first | exact At.here | apply At.there); done) | exact SH.rsO H (by (repeat first | exact At.here | apply At.there); done)) (by omega) | exact Rs.toL (by first | assumption | exact SH.rsR H (by (repeat first | exact At.here | apply At.there); done) | exact SH.rsO H (by (repeat first | exact At.here | apply At.there); done)) (by omega) | exact Rs.toLH (by first | assumption | exact SH.rsR H (by (repeat first | exact At.here | apply At.there); done) | exact SH.rsO H (by (repeat first | exact At.here | apply At.there); done)) (by omega) (by omega) | exact (Rs.nil : Rs Non _ _ _)) (by exact Try.sizeOf52) (by omega) (by omega) ?_
    refine r_fieldAddrO rfl Try.underlying52 rfl Try.sizeOf3 (by decide) (show _ + 0 = _ from rfl) rfl ?_
    refine r_load rfl Try.isAgg3 rfl (by first | exact SH.cellB H (by (repeat first | exact At.here | apply At.there); done) (by rfl) | exact SH.cellI H (by (repeat first | exact At.here | apply At.there); done) (by rfl) | exact Rs.cell (by first | assumption | exact SH.rsR H (by (repeat first | exact At.here | apply At.there); done) | exact SH.rsO H (by (repeat first | exact At.here | apply At.there); done) | exact Rs.toH (by first | assumption | exact SH.rsR H (by (repeat first | exact At.here | apply At.there); done) | exact SH.rsO H (by (repeat first | exact At.here | apply At.there); done)) (by omega) | exact Rs.toL (by first | assumption | exact SH.rsR H (by (repeat first | exact At.here | apply At.there); done) | exact SH.rsO H (by (repeat first | exact At.here | apply At.there); done)) (by omega) | exact Rs.toLH (by first | assumption | exact SH.rsR H (by (repeat first | exact At.here | apply At.there); done) | exact SH.rsO H (by (repeat first | exact At.here | apply At.there); done)) (by omega) (by omega) | exact (Rs.nil : Rs Non _ _ _)) (by assumption) (by rfl) | exact Rs.cell0 (by first | assumption | exact SH.rsR H (by (repeat first | exact At.here | apply At.there); done) | exact SH.rsO H (by (repeat first | exact At.here | apply At.there); done) | exact Rs.toH (by first | assumption | exact SH.rsR H (by (repeat first | exact At.here | apply At.there); done) | exact SH.rsO H (by (repeat first | exact At.here | apply At.there); done)) (by omega) | exact Rs.toL (by first | assumption | exact SH.rsR H (by (repeat first | exact At.here | apply At.there); done) | exact SH.rsO H (by (repeat first | exact At.here | apply At.there); done)) (by omega) | exact Rs.toLH (by first | assumption | exact SH.rsR H (by (repeat first | exact At.here | apply At.there); done) | exact SH.rsO H (by (repeat first | exact At.here | apply At.there); done)) (by omega) (by omega) | exact (Rs.nil : Rs Non _ _ _)) (by assumption) (by rfl) | assumption) ?_
    refine r_call rfl Try.call26 (by simp only [List.map_cons, List.map_nil, List.map_toArray, List.toList_toArray, upd_get, ev, Nat.reduceEqDiff, ↓reduceIte] <;> rfl) (In_c _ _ (by first | assumption | exact SH.rsR H (by (repeat first | exact At.here | apply At.there); done) | exact SH.rsO H (by (repeat first | exact At.here | apply At.there); done) | exact Rs.toH (by first | assumption | exact SH.rsR H (by (repeat first | exact At.here | apply At.there); done) | exact SH.rsO H (by (repeat first | exact At.here | apply At.there); done)) (by omega) | exact Rs.toL (by first | assumption | exact SH.rsR H (by (repeat first | exact At.here | apply At.there); done) | exact SH.rsO H (by (repeat first | exact At.here | apply At.there); done)) (by omega) | exact Rs.toLH (by first | assumption | exact SH.rsR H (by (repeat first | exact At.here | apply At.there); done) | exact SH.rsO H (by (repeat first | exact At.here | apply At.there); done)) (by omega) (by omega) | exact (Rs.nil : Rs Non _ _ _))) ?_
    rintro _ _ ⟨rfl, rfl⟩
    refine ⟨_, rfl, ?_⟩
    refine r_move rfl ?_
    refine r_neqB rfl Try.underlying4 rfl rfl ?_
    refine r_move rfl ?_
    refine' LW.grpOr (n := 12) (ts := [4, 11, 12, 13, 14, 15, 16]) (d := 75) (tj := 63) rfl (fun hg9_10 => ?_) (fun hg9_10 => ?_) (fun σ => ?_)
    rotate_left
    · simp only [List.take_succ_cons, List.take_zero]
      have hg9_10P := hg9_10
      try simp only [decide_eq_true_eq, decide_eq_false_iff_not, Bool.and_eq_true, Bool.or_eq_true, Bool.and_eq_false_iff, Bool.or_eq_false_iff, Bool.not_eq_true', Bool.not_eq_false', beq_iff_eq, bne_iff_ne] at hg9_10P
      refine LW.want rfl rfl hg9_10 ?_
      refine r_move rfl ?_
      refine LW.want rfl rfl hg9_10 ?_
      refine r_move rfl ?_
      refine' LW.grpAnd (n := 9) (ts := [4, 11, 12, 13, 14, 15, 16, 63]) (d := 74) (tj := 65) rfl (fun hg9_12 => ?_) (fun hg9_12 => ?_) (fun σ => ?_)
      rotate_left
      · simp only [List.take_succ_cons, List.take_zero]
        have hg9_12P := hg9_12
        try simp only [decide_eq_true_eq, decide_eq_false_iff_not, Bool.and_eq_true, Bool.or_eq_true, Bool.and_eq_false_iff, Bool.or_eq_false_iff, Bool.not_eq_true', Bool.not_eq_false', beq_iff_eq, bne_iff_ne] at hg9_12P
        refine LW.want rfl rfl hg9_12 ?_
        refine r_move rfl ?_
        refine LW.want rfl rfl hg9_12 ?_
        refine r_move rfl ?_
        refine LW.want rfl rfl hg9_12 ?_
        refine r_move rfl ?_
        refine LW.want rfl rfl hg9_12 ?_
        refine r_indexAddrV rfl Try.underlying48 (by simp only [upd_get, ev, Nat.reduceEqDiff, ↓reduceIte] <;> rfl) rfl (by first | assumption | exact SH.rsR H (by (repeat first | exact At.here | apply At.there); done) | exact SH.rsO H (by (repeat first | exact At.here | apply At.there); done) | exact Rs.toH (by first | assumption | exact SH.rsR H (by (repeat first | exact At.here | apply At.there); done) | exact SH.rsO H (by (repeat first | exact At.here | apply At.there); done)) (by omega) | exact Rs.toL (by first | assumption | exact SH.rsR H (by (repeat first | exact At.here | apply At.there); done) | exact SH.rsO H (by (repeat first | exact At.here | apply At.there); done)) (by omega) | exact Rs.toLH (by first | assumption | exact SH.rsR H (by (repeat first | exact At.here | apply At.there); done) | exact SH.rsO H (by (repeat first | exact At.here | apply At.there); done)) (by omega) (by omega) | exact (Rs.nil : Rs Non _ _ _)) (by exact Try.sizeOf52) (by omega) (by omega) ?_
        refine LW.want rfl rfl hg9_12 ?_
        refine r_fieldAddrO rfl Try.underlying52 rfl Try.sizeOf3 (by decide) (show _ + 0 = _ from rfl) rfl ?_
        refine LW.want rfl rfl hg9_12 ?_
        refine r_load rfl Try.isAgg3 rfl (by first | exact SH.cellB H (by (repeat first | exact At.here | apply At.there); done) (by rfl) | exact SH.cellI H (by (repeat first | exact At.here | apply At.there); done) (by rfl) | exact Rs.cell (by first | assumption | exact SH.rsR H (by (repeat first | exact At.here | apply At.there); done) | exact SH.rsO H (by (repeat first | exact At.here | apply At.there); done) | exact Rs.toH (by first | assumption | exact SH.rsR H (by (repeat first | exact At.here | apply At.there); done) | exact SH.rsO H (by (repeat first | exact At.here | apply At.there); done)) (by omega) | exact Rs.toL (by first | assumption | exact SH.rsR H (by (repeat first | exact At.here | apply At.there); done) | exact SH.rsO H (by (repeat first | exact At.here | apply At.there); done)) (by omega) | exact Rs.toLH (by first | assumption | exact SH.rsR H (by (repeat first | exact At.here | apply At.there); done) | exact SH.rsO H (by (repeat first | exact At.here | apply At.there); done)) (by omega) (by omega) | exact (Rs.nil : Rs Non _ _ _)) (by assumption) (by rfl) | exact Rs.cell0 (by first | assumption | exact SH.rsR H (by (repeat first | exact At.here | apply At.there); done) | exact SH.rsO H (by (repeat first | exact At.here | apply At.there); done) | exact Rs.toH (by first | assumption | exact SH.rsR H (by (repeat first | exact At.here | apply At.there); done) | exact SH.rsO H (by (repeat first | exact At.here | apply At.there); done)) (by omega) | exact Rs.toL (by first | assumption | exact SH.rsR H (by (repeat first | exact At.here | apply At.there); done) | exact SH.rsO H (by (repeat first | exact At.here | apply At.there); done)) (by omega) | exact Rs.toLH (by first | assumption | exact SH.rsR H (by (repeat first | exact At.here | apply At.there); done) | exact SH.rsO H (by (repeat first | exact At.here | apply At.there); done)) (by omega) (by omega) | exact (Rs.nil : Rs Non _ _ _)) (by assumption) (by rfl) | assumption) ?_
        refine LW.want rfl rfl hg9_12 ?_
        refine r_call rfl Try.call26 (by simp only [List.map_cons, List.map_nil, List.map_toArray, List.toList_toArray, upd_get, ev, Nat.reduceEqDiff, ↓reduceIte] <;> rfl) (In_c _ _ (by first | assumption | exact SH.rsR H (by (repeat first | exact At.here | apply At.there); done) | exact SH.rsO H (by (repeat first | exact At.here | apply At.there); done) | exact Rs.toH (by first | assumption | exact SH.rsR H (by (repeat first | exact At.here | apply At.there); done) | exact SH.rsO H (by (repeat first | exact At.here | apply At.there); done)) (by omega) | exact Rs.toL (by first | assumption | exact SH.rsR H (by (repeat first | exact At.here | apply At.there); done) | exact SH.rsO H (by (repeat first | exact At.here | apply At.there); done)) (by omega) | exact Rs.toLH (by first | assumption | exact SH.rsR H (by (repeat first | exact At.here | apply At.there); done) | exact SH.rsO H (by (repeat first | exact At.here | apply At.there); done)) (by omega) (by omega) | exact (Rs.nil : Rs Non _ _ _))) ?_
        rintro _ _ ⟨rfl, rfl⟩
        refine ⟨_, rfl, ?_⟩
        refine LW.want rfl rfl hg9_12 ?_
        refine r_not rfl rfl ?_
        refine LW.want rfl rfl hg9_10 ?_
        refine r_pickT rfl rfl hg9_12 ?_
        refine LW.nil (thenE_norm ⟨rfl, rfl, rfl⟩)
      · simp only [List.take_succ_cons, List.take_zero]
        refine LW.skip rfl (fun _ e => by cases e; decide) rfl hg9_12 ?_
        refine LW.skip rfl (fun _ e => by cases e; decide) rfl hg9_12 ?_
        refine LW.skip rfl (fun _ e => by cases e; decide) rfl hg9_12 ?_
        refine LW.skip rfl (fun _ e => by cases e; decide) rfl hg9_12 ?_
        refine LW.skip rfl (fun _ e => by cases e; decide) rfl hg9_12 ?_
        refine LW.skip rfl (fun _ e => by cases e; decide) rfl hg9_12 ?_
        refine LW.skip rfl (fun _ e => by cases e; decide) rfl hg9_12 ?_
        refine LW.skip rfl (fun _ e => by cases e; decide) rfl hg9_12 ?_
        refine LW.want rfl rfl hg9_10 ?_
        refine r_pickF rfl rfl hg9_12 ?_
        refine LW.nil (thenE_norm ⟨rfl, rfl, rfl⟩)
      simp only [setL, keepE, upd_get, ev, Nat.reduceEqDiff, ↓reduceIte]; simp only [List.drop_succ_cons, List.drop_zero]
      refine r_pickF rfl rfl hg9_10 ?_
      refine LW.nil (thenE_norm ⟨rfl, rfl, rfl⟩)
    · simp only [List.take_succ_cons, List.take_zero]
      refine LW.skip rfl (fun _ e => by cases e; decide) rfl hg9_10 ?_
      refine LW.skip rfl (fun _ e => by cases e; decide) rfl hg9_10 ?_
      refine LW.skipU rfl (fun _ e => by cases e; decide) rfl ?_
      refine LW.skipU rfl (fun _ e => by cases e; decide) rfl ?_
      refine LW.skipU rfl (fun _ e => by cases e; decide) rfl ?_
      refine LW.skipU rfl (fun _ e => by cases e; decide) rfl ?_
      refine LW.skipU rfl (fun _ e => by cases e; decide) rfl ?_
      refine LW.skipU rfl (fun _ e => by cases e; decide) rfl ?_
      refine LW.skipU rfl (fun _ e => by cases e; decide) rfl ?_
      refine LW.skipU rfl (fun _ e => by cases e; decide) rfl ?_
      refine LW.skip rfl (fun _ e => by cases e; decide) rfl hg9_10 ?_
      refine r_pickT rfl rfl hg9_10 ?_
      refine LW.nil (thenE_norm ⟨rfl, rfl, rfl⟩)
    simp only [setL, keepE, upd_get, ev, Nat.reduceEqDiff, ↓reduceIte]; simp only [List.drop_succ_cons, List.drop_zero]
    refine LW.nil ?_
    refine thenE_norm (h12 _ _ ?_); clear h12; try clear K12
    refine CW.cond rfl (fun hc2 => ?_) (fun hc2 => ?_)
    · try simp only [decide_eq_true_eq, decide_eq_false_iff_not, Bool.and_eq_true, Bool.or_eq_true, Bool.and_eq_false_iff, Bool.or_eq_false_iff, Bool.not_eq_true', Bool.not_eq_false', beq_iff_eq, bne_iff_ne, ne_eq, Decidable.not_not] at hc2
      refine CW.seq (fun K13 h13 => ?_)
      refine CW.region ?_
      refine r_assign rfl ?_
      refine LW.nil ?_
      refine thenE_norm (h13 _ _ ?_); clear h13; try clear K13
      refine CW.ret (blockE_ret (thenE_ret (thenE_ret (blockE_ret (thenE_ret (ret1 Try.results7 (by simp only [upd_get, ev, Nat.reduceEqDiff, ↓reduceIte]; rfl) ?_))))))
      rcases hc2 with hc2 | hc2
      · exact absurd (decide_eq_decide.2 hd1) hc2
      · exact absurd (hd2.2 (by omega)) hc2.2
    · try simp only [decide_eq_true_eq, decide_eq_false_iff_not, Bool.and_eq_true, Bool.or_eq_true, Bool.and_eq_false_iff, Bool.or_eq_false_iff, Bool.not_eq_true', Bool.not_eq_false', beq_iff_eq, bne_iff_ne, ne_eq, Decidable.not_not] at hc2
      refine CW.skip ?_
      refine blockE_norm ?_
      refine thenE_norm (h10 _ _ ?_); clear h10; try clear K10
      refine CW.region ?_
      refine r_move rfl ?_
      refine r_add rfl rfl rfl (wr_i64 (by omega) (by omega)) ?_
      refine r_assign rfl ?_
      refine LW.nil ?_
      refine thenE_norm ⟨rfl, ?_⟩
      exact ⟨_, by omega, i + 1, rfl, by omega, rfl, (SH.sel H [0, 1, 2] (by decide) (by rfl))⟩
  · try simp only [decide_eq_true_eq, decide_eq_false_iff_not, Bool.and_eq_true, Bool.or_eq_true, Bool.and_eq_false_iff, Bool.or_eq_false_iff, Bool.not_eq_true', Bool.not_eq_false', beq_iff_eq, bne_iff_ne, ne_eq, Decidable.not_not] at hc1
    refine CW.exit (thenE_exit (thenE_exit (blockE_hit ?_)))
    refine thenE_norm (h6 _ _ ?_); clear h6; try clear K6
    refine CW.seq (fun K14 h14 => ?_)
    refine CW.region ?_
    refine r_move rfl ?_
    refine r_convI rfl Try.underlying5 Try.underlying3 rfl (wr_i64 (by omega) (by omega)) ?_
    refine r_rem rfl rfl rfl (by omega) (by omega) (wr_i64 (by omega) (by omega)) ?_
    refine r_assign rfl ?_
    refine LW.nil ?_
    refine thenE_norm ?_
    refine cut (K := K14) [11, 12, 13, 14, 18] (fun σ => ?_)
    simp only [setL, keepE, upd_get, ev, Nat.reduceEqDiff, ↓reduceIte]
    refine h14 _ _ ?_; clear h14; try clear K14
    refine CW.seq (fun K15 h15 => ?_)
    refine CW.region ?_
    refine r_move rfl ?_
    refine r_move rfl ?_
    refine r_move rfl ?_
    refine r_call rfl Try.call27 (by simp only [List.map_cons, List.map_nil, List.map_toArray, List.toList_toArray, upd_get, ev, Nat.reduceEqDiff, ↓reduceIte] <;> rfl) (Renew_c _ _ _ (by first | assumption | exact SH.rsR H (by (repeat first | exact At.here | apply At.there); done) | exact SH.rsO H (by (repeat first | exact At.here | apply At.there); done) | exact Rs.toH (by first | assumption | exact SH.rsR H (by (repeat first | exact At.here | apply At.there); done) | exact SH.rsO H (by (repeat first | exact At.here | apply At.there); done)) (by omega) | exact Rs.toL (by first | assumption | exact SH.rsR H (by (repeat first | exact At.here | apply At.there); done) | exact SH.rsO H (by (repeat first | exact At.here | apply At.there); done)) (by omega) | exact Rs.toLH (by first | assumption | exact SH.rsR H (by (repeat first | exact At.here | apply At.there); done) | exact SH.rsO H (by (repeat first | exact At.here | apply At.there); done)) (by omega) (by omega) | exact (Rs.nil : Rs Non _ _ _)) (by first | omega | (simp only [List.length_append, List.length_cons, List.length_nil]; omega) | (simp; omega)) hup) ?_
    rintro _ w12_3 ⟨v12_3, g12_3, rfl, K⟩
    refine ⟨_, rfl, ?_⟩
    replace H := SH.call H K
    clear K
    try dsimp only [replC, List.cons_append, List.nil_append, List.append_nil, agg, cellsL, Value.cells, List.toList_toArray, List.set_cons_zero, List.set_cons_succ, spliceL, List.take_succ_cons, List.take_zero, List.drop_succ_cons, List.drop_zero, List.length_cons, List.length_nil, Nat.reduceAdd, Row.cells, Ses.L] at H
    refine r_move rfl ?_
    refine r_extract rfl (by simp only [upd_get, ev, Nat.reduceEqDiff, ↓reduceIte] <;> rfl) (by simp only [List.getElem?_toArray, List.getElem?_cons_zero, List.getElem?_cons_succ] <;> rfl) ?_
    refine r_extract rfl (by simp only [upd_get, ev, Nat.reduceEqDiff, ↓reduceIte] <;> rfl) (by simp only [List.getElem?_toArray, List.getElem?_cons_zero, List.getElem?_cons_succ] <;> rfl) ?_
    refine r_assign rfl ?_
    refine r_assign rfl ?_
    refine LW.nil ?_
    refine thenE_norm ?_
    refine cut (K := K15) [11, 12, 13, 14, 18, 19, 20] (fun σ => ?_)
    simp only [setL, keepE, upd_get, ev, Nat.reduceEqDiff, ↓reduceIte]
    refine h15 _ _ ?_; clear h15; try clear K15
    refine CW.seq (fun K16 h16 => ?_)
    refine CW.seq (fun K17 h17 => ?_)
    rcases (show ((findS l1_1 (client % 8)).2 = true ∧ renewM l1_1 (client % 8) now = (newS l1_1 (client % 8) now, 0)) ∨ ((findS l1_1 (client % 8)).2 = false ∧ renewM l1_1 (client % 8) now = ([], 6)) by rw [renewM_eq hup, if_neg (by omega)]; cases hq : (findS l1_1 (client % 8)).2 <;> simp) with ⟨hf, hre⟩ | ⟨hf, hre⟩
    · rw [hre] at H
      rw [hre]
      have htm := (ok_new (l := l1_1) (client % 8) hb1 (by omega : now ≤ 2305843009213693952) hok1_1).times
      have hnl : (newS l1_1 (client % 8) now).length = l1_1.length := by simp [newS]
      refine CW.region ?_
      refine r_move rfl ?_
      refine r_eql rfl rfl rfl ?_
      refine r_move rfl ?_
      refine LW.known (t := 88) (c := true) rfl (by first | rfl | (simp only [decide_eq_true_eq, decide_eq_false_iff_not, Bool.and_eq_true, Bool.or_eq_true, Bool.and_eq_false_iff, Bool.or_eq_false_iff, Bool.not_eq_true', Bool.not_eq_false', beq_iff_eq, bne_iff_ne]; omega) | simp_all) (fun hg13_3 => ?_)
      refine LW.want rfl rfl hg13_3 ?_
      refine r_move rfl ?_
      refine LW.want rfl rfl hg13_3 ?_
      refine r_move rfl ?_
      refine LW.want rfl rfl hg13_3 ?_
      refine r_move rfl ?_
      refine LW.want rfl rfl hg13_3 ?_
      refine r_add rfl rfl rfl (wr_i64 (by omega) (by omega)) ?_
      refine LW.want rfl rfl hg13_3 ?_
      refine r_sub rfl rfl rfl (wr_i64 (by omega) (by omega)) ?_
      refine LW.want rfl rfl hg13_3 ?_
      refine r_move rfl ?_
      refine LW.want rfl rfl hg13_3 ?_
      refine r_call rfl Try.call25 (by simp only [List.map_cons, List.map_nil, List.map_toArray, List.toList_toArray, upd_get, ev, Nat.reduceEqDiff, ↓reduceIte] <;> rfl) (Due_c _ _ _ (by first | assumption | exact SH.rsR H (by (repeat first | exact At.here | apply At.there); done) | exact SH.rsO H (by (repeat first | exact At.here | apply At.there); done) | exact Rs.toH (by first | assumption | exact SH.rsR H (by (repeat first | exact At.here | apply At.there); done) | exact SH.rsO H (by (repeat first | exact At.here | apply At.there); done)) (by omega) | exact Rs.toL (by first | assumption | exact SH.rsR H (by (repeat first | exact At.here | apply At.there); done) | exact SH.rsO H (by (repeat first | exact At.here | apply At.there); done)) (by omega) | exact Rs.toLH (by first | assumption | exact SH.rsR H (by (repeat first | exact At.here | apply At.there); done) | exact SH.rsO H (by (repeat first | exact At.here | apply At.there); done)) (by omega) (by omega) | exact (Rs.nil : Rs Non _ _ _)) (by omega) htm) ?_
      rintro _ w13_9 ⟨v13_9, g13_9, rfl, K⟩
      refine ⟨_, rfl, ?_⟩
      replace H := SH.call H K
      clear K
      try dsimp only [replC, List.cons_append, List.nil_append, List.append_nil, agg, cellsL, Value.cells, List.toList_toArray, List.set_cons_zero, List.set_cons_succ, spliceL, List.take_succ_cons, List.take_zero, List.drop_succ_cons, List.drop_zero, List.length_cons, List.length_nil, Nat.reduceAdd, Row.cells, Ses.L] at H
      refine LW.want rfl rfl hg13_3 ?_
      refine r_move rfl ?_
      refine LW.want rfl rfl hg13_3 ?_
      refine r_call rfl Try.call26 (by simp only [List.map_cons, List.map_nil, List.map_toArray, List.toList_toArray, upd_get, ev, Nat.reduceEqDiff, ↓reduceIte] <;> rfl) (In_c _ _ (by first | assumption | exact SH.rsR H (by (repeat first | exact At.here | apply At.there); done) | exact SH.rsO H (by (repeat first | exact At.here | apply At.there); done) | exact Rs.toH (by first | assumption | exact SH.rsR H (by (repeat first | exact At.here | apply At.there); done) | exact SH.rsO H (by (repeat first | exact At.here | apply At.there); done)) (by omega) | exact Rs.toL (by first | assumption | exact SH.rsR H (by (repeat first | exact At.here | apply At.there); done) | exact SH.rsO H (by (repeat first | exact At.here | apply At.there); done)) (by omega) | exact Rs.toLH (by first | assumption | exact SH.rsR H (by (repeat first | exact At.here | apply At.there); done) | exact SH.rsO H (by (repeat first | exact At.here | apply At.there); done)) (by omega) (by omega) | exact (Rs.nil : Rs Non _ _ _))) ?_
      rintro _ _ ⟨rfl, rfl⟩
      refine ⟨_, rfl, ?_⟩
      refine LW.want rfl rfl hg13_3 ?_
      refine r_move rfl ?_
      refine LW.known (t := 98) (c := false) rfl (due_new0 (by unfold badT; omega)) (fun hg13_13 => ?_)
      refine LW.want rfl rfl hg13_13 ?_
      refine r_move rfl ?_
      refine LW.want rfl rfl hg13_13 ?_
      refine r_geq rfl rfl rfl ?_
      refine LW.want rfl rfl hg13_13 ?_
      refine r_move rfl ?_
      refine LW.splitB (t := 101) rfl (fun hg13_16 => ?_) (fun hg13_16 => ?_)
      · have hg13_16P := hg13_16
        try simp only [decide_eq_true_eq, decide_eq_false_iff_not, Bool.and_eq_true, Bool.or_eq_true, Bool.and_eq_false_iff, Bool.or_eq_false_iff, Bool.not_eq_true', Bool.not_eq_false', beq_iff_eq, bne_iff_ne] at hg13_16P
        refine LW.want rfl rfl hg13_16 ?_
        refine r_move rfl ?_
        refine LW.want rfl rfl hg13_16 ?_
        refine r_move rfl ?_
        refine LW.want rfl rfl hg13_16 ?_
        refine r_move rfl ?_
        refine LW.want rfl rfl hg13_16 ?_
        refine r_add rfl rfl rfl (wr_i64 (by omega) (by omega)) ?_
        refine LW.want rfl rfl hg13_16 ?_
        refine r_move rfl ?_
        refine LW.want rfl rfl hg13_16 ?_
        refine r_call rfl Try.call25 (by simp only [List.map_cons, List.map_nil, List.map_toArray, List.toList_toArray, upd_get, ev, Nat.reduceEqDiff, ↓reduceIte] <;> rfl) (Due_c _ _ _ (by first | assumption | exact SH.rsR H (by (repeat first | exact At.here | apply At.there); done) | exact SH.rsO H (by (repeat first | exact At.here | apply At.there); done) | exact Rs.toH (by first | assumption | exact SH.rsR H (by (repeat first | exact At.here | apply At.there); done) | exact SH.rsO H (by (repeat first | exact At.here | apply At.there); done)) (by omega) | exact Rs.toL (by first | assumption | exact SH.rsR H (by (repeat first | exact At.here | apply At.there); done) | exact SH.rsO H (by (repeat first | exact At.here | apply At.there); done)) (by omega) | exact Rs.toLH (by first | assumption | exact SH.rsR H (by (repeat first | exact At.here | apply At.there); done) | exact SH.rsO H (by (repeat first | exact At.here | apply At.there); done)) (by omega) (by omega) | exact (Rs.nil : Rs Non _ _ _)) (by omega) htm) ?_
        rintro _ w13_21 ⟨v13_21, g13_21, rfl, K⟩
        refine ⟨_, rfl, ?_⟩
        replace H := SH.call H K
        clear K
        try dsimp only [replC, List.cons_append, List.nil_append, List.append_nil, agg, cellsL, Value.cells, List.toList_toArray, List.set_cons_zero, List.set_cons_succ, spliceL, List.take_succ_cons, List.take_zero, List.drop_succ_cons, List.drop_zero, List.length_cons, List.length_nil, Nat.reduceAdd, Row.cells, Ses.L] at H
        refine LW.want rfl rfl hg13_16 ?_
        refine r_move rfl ?_
        refine LW.want rfl rfl hg13_16 ?_
        refine r_call rfl Try.call26 (by simp only [List.map_cons, List.map_nil, List.map_toArray, List.toList_toArray, upd_get, ev, Nat.reduceEqDiff, ↓reduceIte] <;> rfl) (In_c _ _ (by first | assumption | exact SH.rsR H (by (repeat first | exact At.here | apply At.there); done) | exact SH.rsO H (by (repeat first | exact At.here | apply At.there); done) | exact Rs.toH (by first | assumption | exact SH.rsR H (by (repeat first | exact At.here | apply At.there); done) | exact SH.rsO H (by (repeat first | exact At.here | apply At.there); done)) (by omega) | exact Rs.toL (by first | assumption | exact SH.rsR H (by (repeat first | exact At.here | apply At.there); done) | exact SH.rsO H (by (repeat first | exact At.here | apply At.there); done)) (by omega) | exact Rs.toLH (by first | assumption | exact SH.rsR H (by (repeat first | exact At.here | apply At.there); done) | exact SH.rsO H (by (repeat first | exact At.here | apply At.there); done)) (by omega) (by omega) | exact (Rs.nil : Rs Non _ _ _))) ?_
        rintro _ _ ⟨rfl, rfl⟩
        refine ⟨_, rfl, ?_⟩
        refine LW.want rfl rfl hg13_16 ?_
        refine r_not rfl rfl ?_
        refine LW.want rfl rfl hg13_13 ?_
        refine r_pickT rfl rfl hg13_16 ?_
        refine LW.want rfl rfl hg13_3 ?_
        refine r_pickF rfl rfl hg13_13 ?_
        refine r_pickT rfl rfl hg13_3 ?_
        refine LW.nil ?_
        refine thenE_norm ?_
        refine cut (K := K17) [11, 12, 13, 14, 113] (fun σ => ?_)
        simp only [setL, keepE, upd_get, ev, Nat.reduceEqDiff, ↓reduceIte]
        refine h17 _ _ ?_; clear h17; try clear K17
        refine CW.cond rfl (fun hc3 => ?_) (fun hc3 => ?_)
        · try simp only [decide_eq_true_eq, decide_eq_false_iff_not, Bool.and_eq_true, Bool.or_eq_true, Bool.and_eq_false_iff, Bool.or_eq_false_iff, Bool.not_eq_true', Bool.not_eq_false', beq_iff_eq, bne_iff_ne, ne_eq, Decidable.not_not] at hc3
          refine CW.seq (fun K18 h18 => ?_)
          refine CW.region ?_
          refine r_assign rfl ?_
          refine LW.nil ?_
          refine thenE_norm (h18 _ _ ?_); clear h18; try clear K18
          refine CW.ret (thenE_ret (ret1 Try.results7 (by simp only [upd_get, ev, Nat.reduceEqDiff, ↓reduceIte]; rfl) ?_))
          first
            | contradiction
            | exact absurd (of_decide_eq_true (due_new1 (by unfold badT; omega) hf hsm1_1 (by omega))) hc3
        · try simp only [decide_eq_true_eq, decide_eq_false_iff_not, Bool.and_eq_true, Bool.or_eq_true, Bool.and_eq_false_iff, Bool.or_eq_false_iff, Bool.not_eq_true', Bool.not_eq_false', beq_iff_eq, bne_iff_ne, ne_eq, Decidable.not_not] at hc3
          refine CW.skip ?_
          refine thenE_norm (h16 _ _ ?_); clear h16; try clear K16
          refine CW.seq (fun K19 h19 => ?_)
          have hle := due_le l1_1 now (1 + lease)
          have hz1 : dueM l1_1 (-1) (1 + lease) = [] := if_pos (by unfold badT; omega)
          have hz2 : dueM l1_1 now (-1) = [] := if_pos (by unfold badT; omega)
          refine CW.region ?_
          refine r_move rfl ?_
          first
            | refine r_lenV rfl Try.underlying25 (by simp only [upd_get, ev, Nat.reduceEqDiff, ↓reduceIte] <;> rfl) (by first | assumption | exact SH.rsR H (by (repeat first | exact At.here | apply At.there); done) | exact SH.rsO H (by (repeat first | exact At.here | apply At.there); done) | exact Rs.toH (by first | assumption | exact SH.rsR H (by (repeat first | exact At.here | apply At.there); done) | exact SH.rsO H (by (repeat first | exact At.here | apply At.there); done)) (by omega) | exact Rs.toL (by first | assumption | exact SH.rsR H (by (repeat first | exact At.here | apply At.there); done) | exact SH.rsO H (by (repeat first | exact At.here | apply At.there); done)) (by omega) | exact Rs.toLH (by first | assumption | exact SH.rsR H (by (repeat first | exact At.here | apply At.there); done) | exact SH.rsO H (by (repeat first | exact At.here | apply At.there); done)) (by omega) (by omega) | exact (Rs.nil : Rs Non _ _ _)) ?_
            | refine r_len rfl Try.underlying25 rfl ?_
          refine r_move rfl ?_
          first
            | refine r_lenV rfl Try.underlying48 (by simp only [upd_get, ev, Nat.reduceEqDiff, ↓reduceIte] <;> rfl) (by first | assumption | exact SH.rsR H (by (repeat first | exact At.here | apply At.there); done) | exact SH.rsO H (by (repeat first | exact At.here | apply At.there); done) | exact Rs.toH (by first | assumption | exact SH.rsR H (by (repeat first | exact At.here | apply At.there); done) | exact SH.rsO H (by (repeat first | exact At.here | apply At.there); done)) (by omega) | exact Rs.toL (by first | assumption | exact SH.rsR H (by (repeat first | exact At.here | apply At.there); done) | exact SH.rsO H (by (repeat first | exact At.here | apply At.there); done)) (by omega) | exact Rs.toLH (by first | assumption | exact SH.rsR H (by (repeat first | exact At.here | apply At.there); done) | exact SH.rsO H (by (repeat first | exact At.here | apply At.there); done)) (by omega) (by omega) | exact (Rs.nil : Rs Non _ _ _)) ?_
            | refine r_len rfl Try.underlying48 rfl ?_
          refine r_leq rfl rfl rfl ?_
          refine r_move rfl ?_
          refine LW.known (t := 119) (c := true) rfl (by simp; omega) (fun hg15_6 => ?_)
          refine LW.want rfl rfl hg15_6 ?_
          refine r_move rfl ?_
          refine LW.want rfl rfl hg15_6 ?_
          refine r_move rfl ?_
          refine LW.want rfl rfl hg15_6 ?_
          refine r_call rfl Try.call25 (by simp only [List.map_cons, List.map_nil, List.map_toArray, List.toList_toArray, upd_get, ev, Nat.reduceEqDiff, ↓reduceIte] <;> rfl) (Due_c _ _ _ (by first | assumption | exact SH.rsR H (by (repeat first | exact At.here | apply At.there); done) | exact SH.rsO H (by (repeat first | exact At.here | apply At.there); done) | exact Rs.toH (by first | assumption | exact SH.rsR H (by (repeat first | exact At.here | apply At.there); done) | exact SH.rsO H (by (repeat first | exact At.here | apply At.there); done)) (by omega) | exact Rs.toL (by first | assumption | exact SH.rsR H (by (repeat first | exact At.here | apply At.there); done) | exact SH.rsO H (by (repeat first | exact At.here | apply At.there); done)) (by omega) | exact Rs.toLH (by first | assumption | exact SH.rsR H (by (repeat first | exact At.here | apply At.there); done) | exact SH.rsO H (by (repeat first | exact At.here | apply At.there); done)) (by omega) (by omega) | exact (Rs.nil : Rs Non _ _ _)) (by first | omega | (simp only [List.length_append, List.length_cons, List.length_nil]; omega) | (simp; omega)) ht) ?_
          rintro _ w15_8 ⟨v15_8, g15_8, rfl, K⟩
          refine ⟨_, rfl, ?_⟩
          replace H := SH.call H K
          clear K
          try dsimp only [replC, List.cons_append, List.nil_append, List.append_nil, agg, cellsL, Value.cells, List.toList_toArray, List.set_cons_zero, List.set_cons_succ, spliceL, List.take_succ_cons, List.take_zero, List.drop_succ_cons, List.drop_zero, List.length_cons, List.length_nil, Nat.reduceAdd, Row.cells, Ses.L] at H
          refine LW.want rfl rfl hg15_6 ?_
          first
            | refine r_lenV rfl Try.underlying25 (by simp only [upd_get, ev, Nat.reduceEqDiff, ↓reduceIte] <;> rfl) (by first | assumption | exact SH.rsR H (by (repeat first | exact At.here | apply At.there); done) | exact SH.rsO H (by (repeat first | exact At.here | apply At.there); done) | exact Rs.toH (by first | assumption | exact SH.rsR H (by (repeat first | exact At.here | apply At.there); done) | exact SH.rsO H (by (repeat first | exact At.here | apply At.there); done)) (by omega) | exact Rs.toL (by first | assumption | exact SH.rsR H (by (repeat first | exact At.here | apply At.there); done) | exact SH.rsO H (by (repeat first | exact At.here | apply At.there); done)) (by omega) | exact Rs.toLH (by first | assumption | exact SH.rsR H (by (repeat first | exact At.here | apply At.there); done) | exact SH.rsO H (by (repeat first | exact At.here | apply At.there); done)) (by omega) (by omega) | exact (Rs.nil : Rs Non _ _ _)) ?_
            | refine r_len rfl Try.underlying25 rfl ?_
          refine LW.want rfl rfl hg15_6 ?_
          refine r_eql rfl rfl rfl ?_
          refine r_pickT rfl rfl hg15_6 ?_
          refine r_move rfl ?_
          refine LW.known (t := 126) (c := true) rfl (by rw [hz1]; rfl) (fun hg15_13 => ?_)
          refine LW.want rfl rfl hg15_13 ?_
          refine r_move rfl ?_
          refine LW.want rfl rfl hg15_13 ?_
          refine r_move rfl ?_
          refine LW.want rfl rfl hg15_13 ?_
          refine r_call rfl Try.call25 (by simp only [List.map_cons, List.map_nil, List.map_toArray, List.toList_toArray, upd_get, ev, Nat.reduceEqDiff, ↓reduceIte] <;> rfl) (Due_c _ _ _ (by first | assumption | exact SH.rsR H (by (repeat first | exact At.here | apply At.there); done) | exact SH.rsO H (by (repeat first | exact At.here | apply At.there); done) | exact Rs.toH (by first | assumption | exact SH.rsR H (by (repeat first | exact At.here | apply At.there); done) | exact SH.rsO H (by (repeat first | exact At.here | apply At.there); done)) (by omega) | exact Rs.toL (by first | assumption | exact SH.rsR H (by (repeat first | exact At.here | apply At.there); done) | exact SH.rsO H (by (repeat first | exact At.here | apply At.there); done)) (by omega) | exact Rs.toLH (by first | assumption | exact SH.rsR H (by (repeat first | exact At.here | apply At.there); done) | exact SH.rsO H (by (repeat first | exact At.here | apply At.there); done)) (by omega) (by omega) | exact (Rs.nil : Rs Non _ _ _)) (by first | omega | (simp only [List.length_append, List.length_cons, List.length_nil]; omega) | (simp; omega)) ht) ?_
          rintro _ w15_15 ⟨v15_15, g15_15, rfl, K⟩
          refine ⟨_, rfl, ?_⟩
          replace H := SH.call H K
          clear K
          try dsimp only [replC, List.cons_append, List.nil_append, List.append_nil, agg, cellsL, Value.cells, List.toList_toArray, List.set_cons_zero, List.set_cons_succ, spliceL, List.take_succ_cons, List.take_zero, List.drop_succ_cons, List.drop_zero, List.length_cons, List.length_nil, Nat.reduceAdd, Row.cells, Ses.L] at H
          refine LW.want rfl rfl hg15_13 ?_
          first
            | refine r_lenV rfl Try.underlying25 (by simp only [upd_get, ev, Nat.reduceEqDiff, ↓reduceIte] <;> rfl) (by first | assumption | exact SH.rsR H (by (repeat first | exact At.here | apply At.there); done) | exact SH.rsO H (by (repeat first | exact At.here | apply At.there); done) | exact Rs.toH (by first | assumption | exact SH.rsR H (by (repeat first | exact At.here | apply At.there); done) | exact SH.rsO H (by (repeat first | exact At.here | apply At.there); done)) (by omega) | exact Rs.toL (by first | assumption | exact SH.rsR H (by (repeat first | exact At.here | apply At.there); done) | exact SH.rsO H (by (repeat first | exact At.here | apply At.there); done)) (by omega) | exact Rs.toLH (by first | assumption | exact SH.rsR H (by (repeat first | exact At.here | apply At.there); done) | exact SH.rsO H (by (repeat first | exact At.here | apply At.there); done)) (by omega) (by omega) | exact (Rs.nil : Rs Non _ _ _)) ?_
            | refine r_len rfl Try.underlying25 rfl ?_
          refine LW.want rfl rfl hg15_13 ?_
          refine r_eql rfl rfl rfl ?_
          refine r_pickT rfl rfl hg15_13 ?_
          refine r_move rfl ?_
          refine LW.known (t := 133) (c := true) rfl (by rw [hz2]; rfl) (fun hg15_20 => ?_)
          refine LW.want rfl rfl hg15_20 ?_
          refine r_call rfl Try.call28 (by simp only [List.map_cons, List.map_nil, List.map_toArray, List.toList_toArray, upd_get, ev, Nat.reduceEqDiff, ↓reduceIte] <;> rfl) (awake_c _) ?_
          rintro _ w15_20 ⟨rfl, X⟩
          refine ⟨_, rfl, ?_⟩
          replace H := SH.same H X
          clear X
          refine r_pickT rfl rfl hg15_20 ?_
          refine r_assign rfl ?_
          refine LW.nil ?_
          refine thenE_norm ?_
          refine cut (K := K19) [10] (fun σ => ?_)
          simp only [setL, keepE, upd_get, ev, Nat.reduceEqDiff, ↓reduceIte]
          refine h19 _ _ ?_; clear h19; try clear K19
          refine CW.ret (ret1 Try.results7 (by simp only [upd_get, ev, Nat.reduceEqDiff, ↓reduceIte]; rfl) ?_)
          exact ⟨by simp, H.ext⟩
      · have hg13_16P := hg13_16
        try simp only [decide_eq_true_eq, decide_eq_false_iff_not, Bool.and_eq_true, Bool.or_eq_true, Bool.and_eq_false_iff, Bool.or_eq_false_iff, Bool.not_eq_true', Bool.not_eq_false', beq_iff_eq, bne_iff_ne] at hg13_16P
        refine LW.skip rfl (fun _ e => by cases e; decide) rfl hg13_16 ?_
        refine LW.skip rfl (fun _ e => by cases e; decide) rfl hg13_16 ?_
        refine LW.skip rfl (fun _ e => by cases e; decide) rfl hg13_16 ?_
        refine LW.skip rfl (fun _ e => by cases e; decide) rfl hg13_16 ?_
        refine LW.skip rfl (fun _ e => by cases e; decide) rfl hg13_16 ?_
        refine LW.skip rfl (fun _ e => by cases e; decide) rfl hg13_16 ?_
        refine LW.skip rfl (fun _ e => by cases e; decide) rfl hg13_16 ?_
        refine LW.skip rfl (fun _ e => by cases e; decide) rfl hg13_16 ?_
        refine LW.skip rfl (fun _ e => by cases e; decide) rfl hg13_16 ?_
        refine LW.want rfl rfl hg13_13 ?_
        refine r_pickF rfl rfl hg13_16 ?_
        refine LW.want rfl rfl hg13_3 ?_
        refine r_pickF rfl rfl hg13_13 ?_
        refine r_pickT rfl rfl hg13_3 ?_
        refine LW.nil ?_
        refine thenE_norm ?_
        refine cut (K := K17) [11, 12, 13, 14, 113] (fun σ => ?_)
        simp only [setL, keepE, upd_get, ev, Nat.reduceEqDiff, ↓reduceIte]
        refine h17 _ _ ?_; clear h17; try clear K17
        refine CW.cond rfl (fun hc3 => ?_) (fun hc3 => ?_)
        · try simp only [decide_eq_true_eq, decide_eq_false_iff_not, Bool.and_eq_true, Bool.or_eq_true, Bool.and_eq_false_iff, Bool.or_eq_false_iff, Bool.not_eq_true', Bool.not_eq_false', beq_iff_eq, bne_iff_ne, ne_eq, Decidable.not_not] at hc3
          refine CW.seq (fun K20 h20 => ?_)
          refine CW.region ?_
          refine r_assign rfl ?_
          refine LW.nil ?_
          refine thenE_norm (h20 _ _ ?_); clear h20; try clear K20
          refine CW.ret (thenE_ret (ret1 Try.results7 (by simp only [upd_get, ev, Nat.reduceEqDiff, ↓reduceIte]; rfl) ?_))
          first
            | contradiction
            | exact absurd (of_decide_eq_true (due_new1 (by unfold badT; omega) hf hsm1_1 (by omega))) hc3
        · try simp only [decide_eq_true_eq, decide_eq_false_iff_not, Bool.and_eq_true, Bool.or_eq_true, Bool.and_eq_false_iff, Bool.or_eq_false_iff, Bool.not_eq_true', Bool.not_eq_false', beq_iff_eq, bne_iff_ne, ne_eq, Decidable.not_not] at hc3
          refine CW.skip ?_
          refine thenE_norm (h16 _ _ ?_); clear h16; try clear K16
          refine CW.seq (fun K21 h21 => ?_)
          have hle := due_le l1_1 now (1 + lease)
          have hz1 : dueM l1_1 (-1) (1 + lease) = [] := if_pos (by unfold badT; omega)
          have hz2 : dueM l1_1 now (-1) = [] := if_pos (by unfold badT; omega)
          refine CW.region ?_
          refine r_move rfl ?_
          first
            | refine r_lenV rfl Try.underlying25 (by simp only [upd_get, ev, Nat.reduceEqDiff, ↓reduceIte] <;> rfl) (by first | assumption | exact SH.rsR H (by (repeat first | exact At.here | apply At.there); done) | exact SH.rsO H (by (repeat first | exact At.here | apply At.there); done) | exact Rs.toH (by first | assumption | exact SH.rsR H (by (repeat first | exact At.here | apply At.there); done) | exact SH.rsO H (by (repeat first | exact At.here | apply At.there); done)) (by omega) | exact Rs.toL (by first | assumption | exact SH.rsR H (by (repeat first | exact At.here | apply At.there); done) | exact SH.rsO H (by (repeat first | exact At.here | apply At.there); done)) (by omega) | exact Rs.toLH (by first | assumption | exact SH.rsR H (by (repeat first | exact At.here | apply At.there); done) | exact SH.rsO H (by (repeat first | exact At.here | apply At.there); done)) (by omega) (by omega) | exact (Rs.nil : Rs Non _ _ _)) ?_
            | refine r_len rfl Try.underlying25 rfl ?_
          refine r_move rfl ?_
          first
            | refine r_lenV rfl Try.underlying48 (by simp only [upd_get, ev, Nat.reduceEqDiff, ↓reduceIte] <;> rfl) (by first | assumption | exact SH.rsR H (by (repeat first | exact At.here | apply At.there); done) | exact SH.rsO H (by (repeat first | exact At.here | apply At.there); done) | exact Rs.toH (by first | assumption | exact SH.rsR H (by (repeat first | exact At.here | apply At.there); done) | exact SH.rsO H (by (repeat first | exact At.here | apply At.there); done)) (by omega) | exact Rs.toL (by first | assumption | exact SH.rsR H (by (repeat first | exact At.here | apply At.there); done) | exact SH.rsO H (by (repeat first | exact At.here | apply At.there); done)) (by omega) | exact Rs.toLH (by first | assumption | exact SH.rsR H (by (repeat first | exact At.here | apply At.there); done) | exact SH.rsO H (by (repeat first | exact At.here | apply At.there); done)) (by omega) (by omega) | exact (Rs.nil : Rs Non _ _ _)) ?_
            | refine r_len rfl Try.underlying48 rfl ?_
          refine r_leq rfl rfl rfl ?_
          refine r_move rfl ?_
          refine LW.known (t := 119) (c := true) rfl (by simp; omega) (fun hg15_6 => ?_)
          refine LW.want rfl rfl hg15_6 ?_
          refine r_move rfl ?_
          refine LW.want rfl rfl hg15_6 ?_
          refine r_move rfl ?_
          refine LW.want rfl rfl hg15_6 ?_
          refine r_call rfl Try.call25 (by simp only [List.map_cons, List.map_nil, List.map_toArray, List.toList_toArray, upd_get, ev, Nat.reduceEqDiff, ↓reduceIte] <;> rfl) (Due_c _ _ _ (by first | assumption | exact SH.rsR H (by (repeat first | exact At.here | apply At.there); done) | exact SH.rsO H (by (repeat first | exact At.here | apply At.there); done) | exact Rs.toH (by first | assumption | exact SH.rsR H (by (repeat first | exact At.here | apply At.there); done) | exact SH.rsO H (by (repeat first | exact At.here | apply At.there); done)) (by omega) | exact Rs.toL (by first | assumption | exact SH.rsR H (by (repeat first | exact At.here | apply At.there); done) | exact SH.rsO H (by (repeat first | exact At.here | apply At.there); done)) (by omega) | exact Rs.toLH (by first | assumption | exact SH.rsR H (by (repeat first | exact At.here | apply At.there); done) | exact SH.rsO H (by (repeat first | exact At.here | apply At.there); done)) (by omega) (by omega) | exact (Rs.nil : Rs Non _ _ _)) (by first | omega | (simp only [List.length_append, List.length_cons, List.length_nil]; omega) | (simp; omega)) ht) ?_
          rintro _ w15_8 ⟨v15_8, g15_8, rfl, K⟩
          refine ⟨_, rfl, ?_⟩
          replace H := SH.call H K
          clear K
          try dsimp only [replC, List.cons_append, List.nil_append, List.append_nil, agg, cellsL, Value.cells, List.toList_toArray, List.set_cons_zero, List.set_cons_succ, spliceL, List.take_succ_cons, List.take_zero, List.drop_succ_cons, List.drop_zero, List.length_cons, List.length_nil, Nat.reduceAdd, Row.cells, Ses.L] at H
          refine LW.want rfl rfl hg15_6 ?_
          first
            | refine r_lenV rfl Try.underlying25 (by simp only [upd_get, ev, Nat.reduceEqDiff, ↓reduceIte] <;> rfl) (by first | assumption | exact SH.rsR H (by (repeat first | exact At.here | apply At.there); done) | exact SH.rsO H (by (repeat first | exact At.here | apply At.there); done) | exact Rs.toH (by first | assumption | exact SH.rsR H (by (repeat first | exact At.here | apply At.there); done) | exact SH.rsO H (by (repeat first | exact At.here | apply At.there); done)) (by omega) | exact Rs.toL (by first | assumption | exact SH.rsR H (by (repeat first | exact At.here | apply At.there); done) | exact SH.rsO H (by (repeat first | exact At.here | apply At.there); done)) (by omega) | exact Rs.toLH (by first | assumption | exact SH.rsR H (by (repeat first | exact At.here | apply At.there); done) | exact SH.rsO H (by (repeat first | exact At.here | apply At.there); done)) (by omega) (by omega) | exact (Rs.nil : Rs Non _ _ _)) ?_
            | refine r_len rfl Try.underlying25 rfl ?_
          refine LW.want rfl rfl hg15_6 ?_
          refine r_eql rfl rfl rfl ?_
          refine r_pickT rfl rfl hg15_6 ?_
          refine r_move rfl ?_
          refine LW.known (t := 126) (c := true) rfl (by rw [hz1]; rfl) (fun hg15_13 => ?_)
          refine LW.want rfl rfl hg15_13 ?_
          refine r_move rfl ?_
          refine LW.want rfl rfl hg15_13 ?_
          refine r_move rfl ?_
          refine LW.want rfl rfl hg15_13 ?_
          refine r_call rfl Try.call25 (by simp only [List.map_cons, List.map_nil, List.map_toArray, List.toList_toArray, upd_get, ev, Nat.reduceEqDiff, ↓reduceIte] <;> rfl) (Due_c _ _ _ (by first | assumption | exact SH.rsR H (by (repeat first | exact At.here | apply At.there); done) | exact SH.rsO H (by (repeat first | exact At.here | apply At.there); done) | exact Rs.toH (by first | assumption | exact SH.rsR H (by (repeat first | exact At.here | apply At.there); done) | exact SH.rsO H (by (repeat first | exact At.here | apply At.there); done)) (by omega) | exact Rs.toL (by first | assumption | exact SH.rsR H (by (repeat first | exact At.here | apply At.there); done) | exact SH.rsO H (by (repeat first | exact At.here | apply At.there); done)) (by omega) | exact Rs.toLH (by first | assumption | exact SH.rsR H (by (repeat first | exact At.here | apply At.there); done) | exact SH.rsO H (by (repeat first | exact At.here | apply At.there); done)) (by omega) (by omega) | exact (Rs.nil : Rs Non _ _ _)) (by first | omega | (simp only [List.length_append, List.length_cons, List.length_nil]; omega) | (simp; omega)) ht) ?_
          rintro _ w15_15 ⟨v15_15, g15_15, rfl, K⟩
          refine ⟨_, rfl, ?_⟩
          replace H := SH.call H K
          clear K
          try dsimp only [replC, List.cons_append, List.nil_append, List.append_nil, agg, cellsL, Value.cells, List.toList_toArray, List.set_cons_zero, List.set_cons_succ, spliceL, List.take_succ_cons, List.take_zero, List.drop_succ_cons, List.drop_zero, List.length_cons, List.length_nil, Nat.reduceAdd, Row.cells, Ses.L] at H
          refine LW.want rfl rfl hg15_13 ?_
          first
            | refine r_lenV rfl Try.underlying25 (by simp only [upd_get, ev, Nat.reduceEqDiff, ↓reduceIte] <;> rfl) (by first | assumption | exact SH.rsR H (by (repeat first | exact At.here | apply At.there); done) | exact SH.rsO H (by (repeat first | exact At.here | apply At.there); done) | exact Rs.toH (by first | assumption | exact SH.rsR H (by (repeat first | exact At.here | apply At.there); done) | exact SH.rsO H (by (repeat first | exact At.here | apply At.there); done)) (by omega) | exact Rs.toL (by first | assumption | exact SH.rsR H (by (repeat first | exact At.here | apply At.there); done) | exact SH.rsO H (by (repeat first | exact At.here | apply At.there); done)) (by omega) | exact Rs.toLH (by first | assumption | exact SH.rsR H (by (repeat first | exact At.here | apply At.there); done) | exact SH.rsO H (by (repeat first | exact At.here | apply At.there); done)) (by omega) (by omega) | exact (Rs.nil : Rs Non _ _ _)) ?_
            | refine r_len rfl Try.underlying25 rfl ?_
          refine LW.want rfl rfl hg15_13 ?_
          refine r_eql rfl rfl rfl ?_
          refine r_pickT rfl rfl hg15_13 ?_
          refine r_move rfl ?_
          refine LW.known (t := 133) (c := true) rfl (by rw [hz2]; rfl) (fun hg15_20 => ?_)
          refine LW.want rfl rfl hg15_20 ?_
          refine r_call rfl Try.call28 (by simp only [List.map_cons, List.map_nil, List.map_toArray, List.toList_toArray, upd_get, ev, Nat.reduceEqDiff, ↓reduceIte] <;> rfl) (awake_c _) ?_
          rintro _ w15_20 ⟨rfl, X⟩
          refine ⟨_, rfl, ?_⟩
          replace H := SH.same H X
          clear X
          refine r_pickT rfl rfl hg15_20 ?_
          refine r_assign rfl ?_
          refine LW.nil ?_
          refine thenE_norm ?_
          refine cut (K := K21) [10] (fun σ => ?_)
          simp only [setL, keepE, upd_get, ev, Nat.reduceEqDiff, ↓reduceIte]
          refine h21 _ _ ?_; clear h21; try clear K21
          refine CW.ret (ret1 Try.results7 (by simp only [upd_get, ev, Nat.reduceEqDiff, ↓reduceIte]; rfl) ?_)
          exact ⟨by simp, H.ext⟩
    · rw [hre] at H
      rw [hre]
      refine CW.region ?_
      refine r_move rfl ?_
      refine r_eql rfl rfl rfl ?_
      refine r_move rfl ?_
      refine LW.known (t := 88) (c := false) rfl (by first | rfl | (simp only [decide_eq_true_eq, decide_eq_false_iff_not, Bool.and_eq_true, Bool.or_eq_true, Bool.and_eq_false_iff, Bool.or_eq_false_iff, Bool.not_eq_true', Bool.not_eq_false', beq_iff_eq, bne_iff_ne]; omega) | simp_all) (fun hg13_3 => ?_)
      refine LW.skip rfl (fun _ e => by cases e; decide) rfl hg13_3 ?_
      refine LW.skip rfl (fun _ e => by cases e; decide) rfl hg13_3 ?_
      refine LW.skip rfl (fun _ e => by cases e; decide) rfl hg13_3 ?_
      refine LW.skip rfl (fun _ e => by cases e; decide) rfl hg13_3 ?_
      refine LW.skip rfl (fun _ e => by cases e; decide) rfl hg13_3 ?_
      refine LW.skip rfl (fun _ e => by cases e; decide) rfl hg13_3 ?_
      refine LW.skip rfl (fun _ e => by cases e; decide) rfl hg13_3 ?_
      refine LW.skip rfl (fun _ e => by cases e; decide) rfl hg13_3 ?_
      refine LW.skip rfl (fun _ e => by cases e; decide) rfl hg13_3 ?_
      refine LW.skip rfl (fun _ e => by cases e; decide) rfl hg13_3 ?_
      refine LW.skipU rfl (fun _ e => by cases e; decide) rfl ?_
      refine LW.skipU rfl (fun _ e => by cases e; decide) rfl ?_
      refine LW.skipU rfl (fun _ e => by cases e; decide) rfl ?_
      refine LW.skipU rfl (fun _ e => by cases e; decide) rfl ?_
      refine LW.skipU rfl (fun _ e => by cases e; decide) rfl ?_
      refine LW.skipU rfl (fun _ e => by cases e; decide) rfl ?_
      refine LW.skipU rfl (fun _ e => by cases e; decide) rfl ?_
      refine LW.skipU rfl (fun _ e => by cases e; decide) rfl ?_
      refine LW.skipU rfl (fun _ e => by cases e; decide) rfl ?_
      refine LW.skipU rfl (fun _ e => by cases e; decide) rfl ?_
      refine LW.skipU rfl (fun _ e => by cases e; decide) rfl ?_
      refine LW.skipU rfl (fun _ e => by cases e; decide) rfl ?_
      refine LW.skipU rfl (fun _ e => by cases e; decide) rfl ?_
      refine LW.skip rfl (fun _ e => by cases e; decide) rfl hg13_3 ?_
      refine r_pickF rfl rfl hg13_3 ?_
      refine LW.nil ?_
      refine thenE_norm (h17 _ _ ?_); clear h17; try clear K17
      refine CW.cond rfl (fun hc3 => ?_) (fun hc3 => ?_)
      · try simp only [decide_eq_true_eq, decide_eq_false_iff_not, Bool.and_eq_true, Bool.or_eq_true, Bool.and_eq_false_iff, Bool.or_eq_false_iff, Bool.not_eq_true', Bool.not_eq_false', beq_iff_eq, bne_iff_ne, ne_eq, Decidable.not_not] at hc3
        refine CW.seq (fun K22 h22 => ?_)
        refine CW.region ?_
        refine r_assign rfl ?_
        refine LW.nil ?_
        refine thenE_norm (h22 _ _ ?_); clear h22; try clear K22
        refine CW.ret (thenE_ret (ret1 Try.results7 (by simp only [upd_get, ev, Nat.reduceEqDiff, ↓reduceIte]; rfl) ?_))
        first
          | contradiction
          | exact absurd (of_decide_eq_true (due_new1 (by unfold badT; omega) hf hsm1_1 (by omega))) hc3
      · try simp only [decide_eq_true_eq, decide_eq_false_iff_not, Bool.and_eq_true, Bool.or_eq_true, Bool.and_eq_false_iff, Bool.or_eq_false_iff, Bool.not_eq_true', Bool.not_eq_false', beq_iff_eq, bne_iff_ne, ne_eq, Decidable.not_not] at hc3
        refine CW.skip ?_
        refine thenE_norm (h16 _ _ ?_); clear h16; try clear K16
        refine CW.seq (fun K23 h23 => ?_)
        have hle := due_le l1_1 now (1 + lease)
        have hz1 : dueM l1_1 (-1) (1 + lease) = [] := if_pos (by unfold badT; omega)
        have hz2 : dueM l1_1 now (-1) = [] := if_pos (by unfold badT; omega)
        refine CW.region ?_
        refine r_move rfl ?_
        first
          | refine r_lenV rfl Try.underlying25 (by simp only [upd_get, ev, Nat.reduceEqDiff, ↓reduceIte] <;> rfl) (by first | assumption | exact SH.rsR H (by (repeat first | exact At.here | apply At.there); done) | exact SH.rsO H (by (repeat first | exact At.here | apply At.there); done) | exact Rs.toH (by first | assumption | exact SH.rsR H (by (repeat first | exact At.here | apply At.there); done) | exact SH.rsO H (by (repeat first | exact At.here | apply At.there); done)) (by omega) | exact Rs.toL (by first | assumption | exact SH.rsR H (by (repeat first | exact At.here | apply At.there); done) | exact SH.rsO H (by (repeat first | exact At.here | apply At.there); done)) (by omega) | exact Rs.toLH (by first | assumption | exact SH.rsR H (by (repeat first | exact At.here | apply At.there); done) | exact SH.rsO H (by (repeat first | exact At.here | apply At.there); done)) (by omega) (by omega) | exact (Rs.nil : Rs Non _ _ _)) ?_
          | refine r_len rfl Try.underlying25 rfl ?_
        refine r_move rfl ?_
        first
          | refine r_lenV rfl Try.underlying48 (by simp only [upd_get, ev, Nat.reduceEqDiff, ↓reduceIte] <;> rfl) (by first | assumption | exact SH.rsR H (by (repeat first | exact At.here | apply At.there); done) | exact SH.rsO H (by (repeat first | exact At.here | apply At.there); done) | exact Rs.toH (by first | assumption | exact SH.rsR H (by (repeat first | exact At.here | apply At.there); done) | exact SH.rsO H (by (repeat first | exact At.here | apply At.there); done)) (by omega) | exact Rs.toL (by first | assumption | exact SH.rsR H (by (repeat first | exact At.here | apply At.there); done) | exact SH.rsO H (by (repeat first | exact At.here | apply At.there); done)) (by omega) | exact Rs.toLH (by first | assumption | exact SH.rsR H (by (repeat first | exact At.here | apply At.there); done) | exact SH.rsO H (by (repeat first | exact At.here | apply At.there); done)) (by omega) (by omega) | exact (Rs.nil : Rs Non _ _ _)) ?_
          | refine r_len rfl Try.underlying48 rfl ?_
        refine r_leq rfl rfl rfl ?_
        refine r_move rfl ?_
        refine LW.known (t := 119) (c := true) rfl (by simp; omega) (fun hg15_6 => ?_)
        refine LW.want rfl rfl hg15_6 ?_
        refine r_move rfl ?_
        refine LW.want rfl rfl hg15_6 ?_
        refine r_move rfl ?_
        refine LW.want rfl rfl hg15_6 ?_
        refine r_call rfl Try.call25 (by simp only [List.map_cons, List.map_nil, List.map_toArray, List.toList_toArray, upd_get, ev, Nat.reduceEqDiff, ↓reduceIte] <;> rfl) (Due_c _ _ _ (by first | assumption | exact SH.rsR H (by (repeat first | exact At.here | apply At.there); done) | exact SH.rsO H (by (repeat first | exact At.here | apply At.there); done) | exact Rs.toH (by first | assumption | exact SH.rsR H (by (repeat first | exact At.here | apply At.there); done) | exact SH.rsO H (by (repeat first | exact At.here | apply At.there); done)) (by omega) | exact Rs.toL (by first | assumption | exact SH.rsR H (by (repeat first | exact At.here | apply At.there); done) | exact SH.rsO H (by (repeat first | exact At.here | apply At.there); done)) (by omega) | exact Rs.toLH (by first | assumption | exact SH.rsR H (by (repeat first | exact At.here | apply At.there); done) | exact SH.rsO H (by (repeat first | exact At.here | apply At.there); done)) (by omega) (by omega) | exact (Rs.nil : Rs Non _ _ _)) (by first | omega | (simp only [List.length_append, List.length_cons, List.length_nil]; omega) | (simp; omega)) ht) ?_
        rintro _ w15_8 ⟨v15_8, g15_8, rfl, K⟩
        refine ⟨_, rfl, ?_⟩
        replace H := SH.call H K
        clear K
        try dsimp only [replC, List.cons_append, List.nil_append, List.append_nil, agg, cellsL, Value.cells, List.toList_toArray, List.set_cons_zero, List.set_cons_succ, spliceL, List.take_succ_cons, List.take_zero, List.drop_succ_cons, List.drop_zero, List.length_cons, List.length_nil, Nat.reduceAdd, Row.cells, Ses.L] at H
        refine LW.want rfl rfl hg15_6 ?_
        first
          | refine r_lenV rfl Try.underlying25 (by simp only [upd_get, ev, Nat.reduceEqDiff, ↓reduceIte] <;> rfl) (by first | assumption | exact SH.rsR H (by (repeat first | exact At.here | apply At.there); done) | exact SH.rsO H (by (repeat first | exact At.here | apply At.there); done) | exact Rs.toH (by first | assumption | exact SH.rsR H (by (repeat first | exact At.here | apply At.there); done) | exact SH.rsO H (by (repeat first | exact At.here | apply At.there); done)) (by omega) | exact Rs.toL (by first | assumption | exact SH.rsR H (by (repeat first | exact At.here | apply At.there); done) | exact SH.rsO H (by (repeat first | exact At.here | apply At.there); done)) (by omega) | exact Rs.toLH (by first | assumption | exact SH.rsR H (by (repeat first | exact At.here | apply At.there); done) | exact SH.rsO H (by (repeat first | exact At.here | apply At.there); done)) (by omega) (by omega) | exact (Rs.nil : Rs Non _ _ _)) ?_
          | refine r_len rfl Try.underlying25 rfl ?_
        refine LW.want rfl rfl hg15_6 ?_
        refine r_eql rfl rfl rfl ?_
        refine r_pickT rfl rfl hg15_6 ?_
        refine r_move rfl ?_
        refine LW.known (t := 126) (c := true) rfl (by rw [hz1]; rfl) (fun hg15_13 => ?_)
        refine LW.want rfl rfl hg15_13 ?_
        refine r_move rfl ?_
        refine LW.want rfl rfl hg15_13 ?_
        refine r_move rfl ?_
        refine LW.want rfl rfl hg15_13 ?_
        refine r_call rfl Try.call25 (by simp only [List.map_cons, List.map_nil, List.map_toArray, List.toList_toArray, upd_get, ev, Nat.reduceEqDiff, ↓reduceIte] <;> rfl) (Due_c _ _ _ (by first | assumption | exact SH.rsR H (by (repeat first | exact At.here | apply At.there); done) | exact SH.rsO H (by (repeat first | exact At.here | apply At.there); done) | exact Rs.toH (by first | assumption | exact SH.rsR H (by (repeat first | exact At.here | apply At.there); done) | exact SH.rsO H (by (repeat first | exact At.here | apply At.there); done)) (by omega) | exact Rs.toL (by first | assumption | exact SH.rsR H (by (repeat first | exact At.here | apply At.there); done) | exact SH.rsO H (by (repeat first | exact At.here | apply At.there); done)) (by omega) | exact Rs.toLH (by first | assumption | exact SH.rsR H (by (repeat first | exact At.here | apply At.there); done) | exact SH.rsO H (by (repeat first | exact At.here | apply At.there); done)) (by omega) (by omega) | exact (Rs.nil : Rs Non _ _ _)) (by first | omega | (simp only [List.length_append, List.length_cons, List.length_nil]; omega) | (simp; omega)) ht) ?_
        rintro _ w15_15 ⟨v15_15, g15_15, rfl, K⟩
        refine ⟨_, rfl, ?_⟩
        replace H := SH.call H K
        clear K
        try dsimp only [replC, List.cons_append, List.nil_append, List.append_nil, agg, cellsL, Value.cells, List.toList_toArray, List.set_cons_zero, List.set_cons_succ, spliceL, List.take_succ_cons, List.take_zero, List.drop_succ_cons, List.drop_zero, List.length_cons, List.length_nil, Nat.reduceAdd, Row.cells, Ses.L] at H
        refine LW.want rfl rfl hg15_13 ?_
        first
          | refine r_lenV rfl Try.underlying25 (by simp only [upd_get, ev, Nat.reduceEqDiff, ↓reduceIte] <;> rfl) (by first | assumption | exact SH.rsR H (by (repeat first | exact At.here | apply At.there); done) | exact SH.rsO H (by (repeat first | exact At.here | apply At.there); done) | exact Rs.toH (by first | assumption | exact SH.rsR H (by (repeat first | exact At.here | apply At.there); done) | exact SH.rsO H (by (repeat first | exact At.here | apply At.there); done)) (by omega) | exact Rs.toL (by first | assumption | exact SH.rsR H (by (repeat first | exact At.here | apply At.there); done) | exact SH.rsO H (by (repeat first | exact At.here | apply At.there); done)) (by omega) | exact Rs.toLH (by first | assumption | exact SH.rsR H (by (repeat first | exact At.here | apply At.there); done) | exact SH.rsO H (by (repeat first | exact At.here | apply At.there); done)) (by omega) (by omega) | exact (Rs.nil : Rs Non _ _ _)) ?_
          | refine r_len rfl Try.underlying25 rfl ?_
        refine LW.want rfl rfl hg15_13 ?_
        refine r_eql rfl rfl rfl ?_
        refine r_pickT rfl rfl hg15_13 ?_
        refine r_move rfl ?_
        refine LW.known (t := 133) (c := true) rfl (by rw [hz2]; rfl) (fun hg15_20 => ?_)
        refine LW.want rfl rfl hg15_20 ?_
        refine r_call rfl Try.call28 (by simp only [List.map_cons, List.map_nil, List.map_toArray, List.toList_toArray, upd_get, ev, Nat.reduceEqDiff, ↓reduceIte] <;> rfl) (awake_c _) ?_
        rintro _ w15_20 ⟨rfl, X⟩
        refine ⟨_, rfl, ?_⟩
        replace H := SH.same H X
        clear X
        refine r_pickT rfl rfl hg15_20 ?_
        refine r_assign rfl ?_
        refine LW.nil ?_
        refine thenE_norm ?_
        refine cut (K := K23) [10] (fun σ => ?_)
        simp only [setL, keepE, upd_get, ev, Nat.reduceEqDiff, ↓reduceIte]
        refine h23 _ _ ?_; clear h23; try clear K23
        refine CW.ret (ret1 Try.results7 (by simp only [upd_get, ev, Nat.reduceEqDiff, ↓reduceIte]; rfl) ?_)
        exact ⟨by simp, H.ext⟩
end Go.Proofs.Ytcmnhneigojpoaa
