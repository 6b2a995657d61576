/-
  The walks of layer 19's functions, the second part: what is there, what is ready.
-/
import Derived.Test.YtlfbofnfhhddbaaVPlB
namespace Go.Proofs.Ytlfbofnfhhddbaa
set_option linter.unusedSimpArgs false
set_option linter.unusedVariables false
set_option maxRecDepth 20000
open Go.V Go.RowKit Go.ChangeShapes Go.WideShapes
theorem PoolA.lt {p : Nat} {es : List Ent} {FN : Nat → Prop} {w : World} (h : PoolA p es FN w) : ∀ b, FN b → b < w.heap.size := by
  obtain ⟨_, _, _, h⟩ := h
  exact h.2
theorem PoolA.upx {p : Nat} {es : List Ent} {FN : Nat → Prop} {w w' : World} (h : PoolA p es FN w) (e : Ext0 w w') : PoolA p es FN w' := pool_st Non w w' h e (fun _ _ q => q)

def isR (cl sq : Int) (e : Ent) : Bool := decide (e.req.client = cl) && decide (e.req.seq = sq)
theorem at_c {p : Nat} {es : List Ent} {FN : Nat → Prop} (cl sq : Int) (w : World) (hN : PoolA p es FN w) :
    Calls Try.prog 76 #[.pointer (some ⟨p, 0, none⟩), .int .i64 cl, .int .i64 sq] w fun e w' => e = .returned (.int .i64 (findM (isR cl sq) es)) ∧ Ext0 w w' := by
  obtain ⟨hg, v, g, hA⟩ := hN
  have H := SH.look hA
  simp only [List.map_cons, List.map_nil, toImm] at H
  refine calls_of_CW Try.func76 rfl Try.ntmps76 (Nat.le_of_ble_eq_true rfl) ?_
  simp only [argE, argFrom, Nat.reduceAdd]
  refine CW.seq (fun K1 h1 => ?_)
  refine CW.region ?_
  refine s_box H rfl (by simp only [upd_get, ev, Nat.reduceEqDiff, ↓reduceIte] <;> rfl) rfl ?_
  clear H
  intro b0_0 w0_0 H
  try dsimp only [replC, List.cons_append, List.nil_append, List.append_nil, agg, cellsL, Value.cells, List.toList_toArray, List.set_cons_zero, List.set_cons_succ, spliceL, List.take_succ_cons, List.take_zero, List.drop_succ_cons, List.drop_zero, List.length_cons, List.length_nil, Nat.reduceAdd, Row.cells, Cm.L, Rq.L, Ent.L] at H
  refine s_box H rfl (by simp only [upd_get, ev, Nat.reduceEqDiff, ↓reduceIte] <;> rfl) rfl ?_
  clear H
  intro b0_1 w0_1 H
  try dsimp only [replC, List.cons_append, List.nil_append, List.append_nil, agg, cellsL, Value.cells, List.toList_toArray, List.set_cons_zero, List.set_cons_succ, spliceL, List.take_succ_cons, List.take_zero, List.drop_succ_cons, List.drop_zero, List.length_cons, List.length_nil, Nat.reduceAdd, Row.cells, Cm.L, Rq.L, Ent.L] at H
  refine r_assign rfl ?_
  refine LW.nil ?_
  refine thenE_norm (h1 _ _ ?_); clear h1; try clear K1
  refine CW.seq (fun K2 h2 => ?_)
  refine CW.region ?_
  refine r_move rfl ?_
  refine r_nilCheck rfl rfl ?_
  refine r_fieldAddrO rfl Try.underlying104 rfl Try.sizeOf102 (by decide) (show _ = 0 from rfl) rfl ?_
  refine r_load rfl Try.isAgg102 rfl (by first | exact SH.cellB H (by (repeat first | exact At.here | apply At.there); done) (by rfl) | exact SH.cellI H (by (repeat first | exact At.here | apply At.there); done) (by rfl) | assumption) ?_
  refine r_makeFunc rfl (by simp only [List.map_cons, List.map_nil, List.map_toArray, List.toList_toArray, upd_get, ev, Nat.reduceEqDiff, ↓reduceIte] <;> rfl) (by simp only [List.map_cons, List.map_nil, List.map_toArray, List.toList_toArray, upd_get, ev, Nat.reduceEqDiff, ↓reduceIte] <;> rfl) ?_
  refine r_call rfl Try.call71 (by simp only [List.map_cons, List.map_nil, List.map_toArray, List.toList_toArray, upd_get, ev, Nat.reduceEqDiff, ↓reduceIte] <;> rfl) (IxfE_c (S := fun u => Blk u b0_0 3 [.int .i64 cl] ∧ Blk u b0_1 3 [.int .i64 sq]) (p := isR cl sq) (D := fun _ => True) _ (SH.rsR H (i := 1) rfl) ⟨_, [], [.pointer (some ⟨b0_0, 0, none⟩), .pointer (some ⟨b0_1, 0, none⟩)], rfl, Try.call100, fun x u _ hs => at1_c x cl sq u hs.1 hs.2⟩ (fun _ _ => trivial) (fun w' e => ⟨(H.blk (i := 2) rfl).up0 e, (H.blk (i := 3) rfl).up0 e⟩)) ?_
  rintro _ w1_5 ⟨rfl, X⟩
  refine ⟨_, rfl, ?_⟩
  replace H := SH.same H X
  clear X
  refine r_assign rfl ?_
  refine LW.nil ?_
  refine thenE_norm ?_
  refine cut (K := K2) [6] (fun σ => ?_)
  simp only [setL, keepE, upd_get, ev, Nat.reduceEqDiff, ↓reduceIte]
  refine h2 _ _ ?_; clear h2; try clear K2
  refine CW.ret (ret1 Try.results76 (by simp only [upd_get, ev, Nat.reduceEqDiff, ↓reduceIte]; rfl) ?_)
  exact ⟨rfl, H.ext⟩
def hasM (es : List Ent) (cl sq : Int) : Bool := es.any (isR cl sq)
theorem find_any {α : Type} (p : α → Bool) (xs : List α) : decide (0 ≤ findM p xs) = xs.any p := by
  unfold findM
  by_cases h : xs.any p = true
  · rw [if_pos h, h]; simp
  · rw [if_neg h]; simp [h]
theorem Has_c {p : Nat} {es : List Ent} {FN : Nat → Prop} (cl sq : Int) (w : World) (hN : PoolA p es FN w) :
    Calls Try.prog 25 #[.pointer (some ⟨p, 0, none⟩), .int .i64 cl, .int .i64 sq] w fun e w' => e = .returned (.bool (hasM es cl sq)) ∧ Ext0 w w' := by
  have H := SH.start (U := Non) (G := Any) w
  refine calls_of_CW Try.func25 rfl Try.ntmps25 (Nat.le_of_ble_eq_true rfl) ?_
  simp only [argE, argFrom, Nat.reduceAdd]
  refine CW.seq (fun K1 h1 => ?_)
  refine CW.region ?_
  refine r_assign rfl ?_
  refine LW.nil ?_
  refine thenE_norm (h1 _ _ ?_); clear h1; try clear K1
  refine CW.seq (fun K2 h2 => ?_)
  refine CW.region ?_
  refine r_move rfl ?_
  refine r_neqP rfl Try.underlying22 rfl rfl ?_
  refine r_move rfl ?_
  refine LW.known (t := 9) (c := true) rfl (by first | rfl | (simp only [decide_eq_true_eq, decide_eq_false_iff_not, Bool.and_eq_true, Bool.or_eq_true, Bool.and_eq_false_iff, Bool.or_eq_false_iff, Bool.not_eq_true', Bool.not_eq_false', beq_iff_eq, bne_iff_ne]; omega) | simp_all) (fun hg1_3 => ?_)
  refine LW.want rfl rfl hg1_3 ?_
  refine r_move rfl ?_
  refine LW.want rfl rfl hg1_3 ?_
  refine r_move rfl ?_
  refine LW.want rfl rfl hg1_3 ?_
  refine r_move rfl ?_
  refine LW.want rfl rfl hg1_3 ?_
  refine r_call rfl Try.call76 (by simp only [List.map_cons, List.map_nil, List.map_toArray, List.toList_toArray, upd_get, ev, Nat.reduceEqDiff, ↓reduceIte] <;> rfl) (at_c cl sq _ hN) ?_
  rintro _ w1_6 ⟨rfl, X⟩
  refine ⟨_, rfl, ?_⟩
  replace H := SH.same H X
  clear X
  refine LW.want rfl rfl hg1_3 ?_
  refine r_geq rfl rfl rfl ?_
  refine r_pickT rfl rfl hg1_3 ?_
  refine r_assign rfl ?_
  refine LW.nil ?_
  refine thenE_norm ?_
  refine cut (K := K2) [6] (fun σ => ?_)
  simp only [setL, keepE, upd_get, ev, Nat.reduceEqDiff, ↓reduceIte]
  refine h2 _ _ ?_; clear h2; try clear K2
  refine CW.ret (ret1 Try.results25 (by simp only [upd_get, ev, Nat.reduceEqDiff, ↓reduceIte]; rfl) ?_)
  rw [hasM, ← find_any]
  exact ⟨rfl, H.ext⟩
theorem HasZ_c (cl sq : Int) (w : World) : Calls Try.prog 25 #[.pointer none, .int .i64 cl, .int .i64 sq] w fun e w' => e = .returned (.bool false) ∧ w = w' := by
  refine calls_of_CW Try.func25 rfl Try.ntmps25 (Nat.le_of_ble_eq_true rfl) ?_
  simp only [argE, argFrom, Nat.reduceAdd]
  refine CW.seq (fun K1 h1 => ?_)
  refine CW.region ?_
  refine r_assign rfl ?_
  refine LW.nil ?_
  refine thenE_norm (h1 _ _ ?_); clear h1; try clear K1
  refine CW.seq (fun K2 h2 => ?_)
  refine CW.region ?_
  refine r_move rfl ?_
  refine r_neqP rfl Try.underlying22 rfl rfl ?_
  refine r_move rfl ?_
  refine LW.known (t := 9) (c := false) rfl (by first | rfl | (simp only [decide_eq_true_eq, decide_eq_false_iff_not, Bool.and_eq_true, Bool.or_eq_true, Bool.and_eq_false_iff, Bool.or_eq_false_iff, Bool.not_eq_true', Bool.not_eq_false', beq_iff_eq, bne_iff_ne]; omega) | simp_all) (fun hg1_3 => ?_)
  refine LW.skip rfl (fun _ e => by cases e; decide) rfl hg1_3 ?_
  refine LW.skip rfl (fun _ e => by cases e; decide) rfl hg1_3 ?_
  refine LW.skip rfl (fun _ e => by cases e; decide) rfl hg1_3 ?_
  refine LW.skip rfl (fun _ e => by cases e; decide) rfl hg1_3 ?_
  refine LW.skip rfl (fun _ e => by cases e; decide) rfl hg1_3 ?_
  refine r_pickF rfl rfl hg1_3 ?_
  refine r_assign rfl ?_
  refine LW.nil ?_
  refine thenE_norm (h2 _ _ ?_); clear h2; try clear K2
  refine CW.ret (ret1 Try.results25 (by simp only [upd_get, ev, Nat.reduceEqDiff, ↓reduceIte]; rfl) ?_)
  exact ⟨rfl, rfl⟩
theorem PLen_c {p : Nat} {es : List Ent} {FN : Nat → Prop} (w : World) (hN : PoolA p es FN w) :
    Calls Try.prog 24 #[.pointer (some ⟨p, 0, none⟩)] w fun e w' => e = .returned (.int .i64 es.length) ∧ w = w' := by
  obtain ⟨hg, v, g, hA⟩ := hN
  have H := SH.obj (G := Any) hA
  refine calls_of_CW Try.func24 rfl Try.ntmps24 (Nat.le_of_ble_eq_true rfl) ?_
  simp only [argE, argFrom, Nat.reduceAdd]
  refine CW.seq (fun K1 h1 => ?_)
  refine CW.region ?_
  refine r_assign rfl ?_
  refine LW.nil ?_
  refine thenE_norm (h1 _ _ ?_); clear h1; try clear K1
  refine CW.seq (fun K2 h2 => ?_)
  refine CW.seq (fun K3 h3 => ?_)
  refine CW.region ?_
  refine r_move rfl ?_
  refine r_eqlP rfl Try.underlying22 rfl rfl ?_
  refine LW.nil ?_
  refine thenE_norm (h3 _ _ ?_); clear h3; try clear K3
  refine CW.condF rfl (by first | rfl | (simp only [decide_eq_true_eq, decide_eq_false_iff_not, Bool.and_eq_true, Bool.or_eq_true, Bool.and_eq_false_iff, Bool.or_eq_false_iff, Bool.not_eq_true', Bool.not_eq_false', beq_iff_eq, bne_iff_ne]; omega) | simp_all) ?_
  refine CW.skip ?_
  refine thenE_norm (h2 _ _ ?_); clear h2; try clear K2
  refine CW.seq (fun K4 h4 => ?_)
  refine CW.region ?_
  refine r_move rfl ?_
  refine r_nilCheck rfl rfl ?_
  refine r_fieldAddrO rfl Try.underlying104 rfl Try.sizeOf102 (by decide) (show _ = 0 from rfl) rfl ?_
  refine r_load rfl Try.isAgg102 rfl (by first | exact SH.cellB H (by (repeat first | exact At.here | apply At.there); done) (by rfl) | exact SH.cellI H (by (repeat first | exact At.here | apply At.there); done) (by rfl) | assumption) ?_
  first
    | refine r_lenV rfl Try.underlying102 (by simp only [upd_get, ev, Nat.reduceEqDiff, ↓reduceIte] <;> rfl) (by first | assumption | exact SH.rsR H (by (repeat first | exact At.here | apply At.there); done) | exact SH.rsO H (by (repeat first | exact At.here | apply At.there); done) | exact (Rs.nil : Rs Non _ _ _)) ?_
    | refine r_len rfl Try.underlying102 rfl ?_
  refine r_assign rfl ?_
  refine LW.nil ?_
  refine thenE_norm ?_
  refine cut (K := K4) [2] (fun σ => ?_)
  simp only [setL, keepE, upd_get, ev, Nat.reduceEqDiff, ↓reduceIte]
  refine h4 _ _ ?_; clear h4; try clear K4
  refine CW.ret (ret1 Try.results24 (by simp only [upd_get, ev, Nat.reduceEqDiff, ↓reduceIte]; rfl) ?_)
  exact ⟨rfl, rfl⟩
theorem PLenZ_c (w : World) : Calls Try.prog 24 #[.pointer none] w fun e w' => e = .returned (.int .i64 0) ∧ w = w' := by
  refine calls_of_CW Try.func24 rfl Try.ntmps24 (Nat.le_of_ble_eq_true rfl) ?_
  simp only [argE, argFrom, Nat.reduceAdd]
  refine CW.seq (fun K1 h1 => ?_)
  refine CW.region ?_
  refine r_assign rfl ?_
  refine LW.nil ?_
  refine thenE_norm (h1 _ _ ?_); clear h1; try clear K1
  refine CW.seq (fun K2 h2 => ?_)
  refine CW.seq (fun K3 h3 => ?_)
  refine CW.region ?_
  refine r_move rfl ?_
  refine r_eqlP rfl Try.underlying22 rfl rfl ?_
  refine LW.nil ?_
  refine thenE_norm (h3 _ _ ?_); clear h3; try clear K3
  refine CW.condT rfl (by first | rfl | (simp only [decide_eq_true_eq, decide_eq_false_iff_not, Bool.and_eq_true, Bool.or_eq_true, Bool.and_eq_false_iff, Bool.or_eq_false_iff, Bool.not_eq_true', Bool.not_eq_false', beq_iff_eq, bne_iff_ne]; omega) | simp_all) ?_
  refine CW.seq (fun K4 h4 => ?_)
  refine CW.region ?_
  refine r_assign rfl ?_
  refine LW.nil ?_
  refine thenE_norm (h4 _ _ ?_); clear h4; try clear K4
  refine CW.ret (thenE_ret (ret1 Try.results24 (by simp only [upd_get, ev, Nat.reduceEqDiff, ↓reduceIte]; rfl) ?_))
  exact ⟨rfl, rfl⟩
theorem List_c {p : Nat} {es : List Ent} {FN : Nat → Prop} (w : World) (hN : PoolA p es FN w) :
    Calls Try.prog 23 #[.pointer (some ⟨p, 0, none⟩)] w fun e w' => ∃ v g, e = .returned v ∧ SH Non Non w w' [.O 29 v (es.map Ent.req) g] := by
  obtain ⟨hg, v, gp, hA⟩ := hN
  have H := SH.look hA
  simp only [List.map_cons, List.map_nil, toImm] at H
  have h6 := hg.1
  refine calls_of_CW Try.func23 rfl Try.ntmps23 (Nat.le_of_ble_eq_true rfl) ?_
  simp only [argE, argFrom, Nat.reduceAdd]
  refine CW.seq (fun K1 h1 => ?_)
  refine CW.region ?_
  refine r_assign rfl ?_
  refine LW.nil ?_
  refine thenE_norm (h1 _ _ ?_); clear h1; try clear K1
  refine CW.seq (fun K2 h2 => ?_)
  refine CW.region ?_
  refine r_assign rfl ?_
  refine LW.nil ?_
  refine thenE_norm (h2 _ _ ?_); clear h2; try clear K2
  refine CW.seq (fun K3 h3 => ?_)
  refine CW.seq (fun K4 h4 => ?_)
  refine CW.region ?_
  refine r_move rfl ?_
  refine r_eqlP rfl Try.underlying22 rfl rfl ?_
  refine LW.nil ?_
  refine thenE_norm (h4 _ _ ?_); clear h4; try clear K4
  refine CW.condF rfl (by first | rfl | (simp only [decide_eq_true_eq, decide_eq_false_iff_not, Bool.and_eq_true, Bool.or_eq_true, Bool.and_eq_false_iff, Bool.or_eq_false_iff, Bool.not_eq_true', Bool.not_eq_false', beq_iff_eq, bne_iff_ne]; omega) | simp_all) ?_
  refine CW.skip ?_
  refine thenE_norm (h3 _ _ ?_); clear h3; try clear K3
  refine CW.seq (fun K5 h5 => ?_)
  refine CW.seq (fun K6 h6 => ?_)
  refine CW.region ?_
  refine r_move rfl ?_
  refine r_nilCheck rfl rfl ?_
  refine r_fieldAddrO rfl Try.underlying104 rfl Try.sizeOf102 (by decide) (show _ = 0 from rfl) rfl ?_
  refine r_load rfl Try.isAgg102 rfl (by first | exact SH.cellB H (by (repeat first | exact At.here | apply At.there); done) (by rfl) | exact SH.cellI H (by (repeat first | exact At.here | apply At.there); done) (by rfl) | assumption) ?_
  first
    | refine r_lenV rfl Try.underlying102 (by simp only [upd_get, ev, Nat.reduceEqDiff, ↓reduceIte] <;> rfl) (by first | assumption | exact SH.rsR H (by (repeat first | exact At.here | apply At.there); done) | exact SH.rsO H (by (repeat first | exact At.here | apply At.there); done) | exact (Rs.nil : Rs Non _ _ _)) ?_
    | refine r_len rfl Try.underlying102 rfl ?_
  refine r_move rfl ?_
  refine LW.nil ?_
  refine thenE_norm ?_
  refine cut (K := K6) [3, 11, 12, 13] (fun σ => ?_)
  simp only [setL, keepE, upd_get, ev, Nat.reduceEqDiff, ↓reduceIte]
  refine h6 _ _ ?_; clear h6; try clear K6
  refine CW.block ?_
  refine CW.loopR [11, 12] [3, 13] (fun m vs w' => ∃ (i : Nat) (u : Value) (g : Option Nat), vs = [u, .int .i64 i] ∧ i ≤ es.length ∧ m = es.length - i ∧ SH Non Any w w' [.I (fun k => k = p) (fun w => Blk w p 104 [v]), .R (fun b => gp = some b) v es, .O 29 u ((es.take i).map Ent.req) g]) (es.length) ?_ ?_
  · exact ⟨0, .slice none 0 0, none, rfl, by omega, by omega, H.addO (α := Rq) 29⟩
  try clear H
  rintro n1 vs1 wL1 σ ⟨i, u, gu, rfl, hi, rfl, H⟩
  simp only [setL, keepE, upd_get, ev, Nat.reduceEqDiff, ↓reduceIte]
  refine CW.seq (fun K7 h7 => ?_)
  refine CW.region ?_
  refine r_lss rfl rfl rfl ?_
  refine LW.nil ?_
  refine thenE_norm (h7 _ _ ?_); clear h7; try clear K7
  refine CW.seq (fun K8 h8 => ?_)
  refine CW.cond rfl (fun hc2 => ?_) (fun hc2 => ?_)
  · try simp only [decide_eq_true_eq, decide_eq_false_iff_not, Bool.and_eq_true, Bool.or_eq_true, Bool.and_eq_false_iff, Bool.or_eq_false_iff, Bool.not_eq_true', Bool.not_eq_false', beq_iff_eq, bne_iff_ne, ne_eq, Decidable.not_not] at hc2
    refine CW.skip ?_
    refine thenE_norm (h8 _ _ ?_); clear h8; try clear K8
    refine CW.seq (fun K9 h9 => ?_)
    refine CW.block ?_
    refine CW.seq (fun K10 h10 => ?_)
    obtain ⟨x, hx⟩ := get_of_lt (show i < es.length by omega)
    refine CW.region ?_
    refine r_indexAddrV rfl Try.underlying102 (by simp only [upd_get, ev, Nat.reduceEqDiff, ↓reduceIte] <;> rfl) rfl (by first | assumption | exact SH.rsR H (by (repeat first | exact At.here | apply At.there); done) | exact SH.rsO H (by (repeat first | exact At.here | apply At.there); done) | exact (Rs.nil : Rs Non _ _ _)) (by exact Try.sizeOf108) (by omega) (by omega) ?_
    refine r_loadA rfl Try.isAgg108 Try.sizeOf108 rfl (by first | exact Rs.cells0 (by first | assumption | exact SH.rsR H (by (repeat first | exact At.here | apply At.there); done) | exact SH.rsO H (by (repeat first | exact At.here | apply At.there); done) | exact (Rs.nil : Rs Non _ _ _)) (by assumption)) (by rfl) ?_
    refine s_alloc (cs := [.int .i64 0, .int .i64 0, .int .i64 0, .int .i64 0, .string (ByteArray.mk #[]), .int .i64 0, .bool false, .int .i64 0, .bool false, .int .i64 0]) H rfl Try.zeroValue108 rfl ?_
    clear H
    intro b6_2 w6_2 H
    try dsimp only [replC, List.cons_append, List.nil_append, List.append_nil, agg, cellsL, Value.cells, List.toList_toArray, List.set_cons_zero, List.set_cons_succ, spliceL, List.take_succ_cons, List.take_zero, List.drop_succ_cons, List.drop_zero, List.length_cons, List.length_nil, Nat.reduceAdd, Row.cells, Cm.L, Rq.L, Ent.L] at H
    refine s_storeA H Try.sizeOf108 rfl (by simp only [upd_get, ev, Nat.reduceEqDiff, ↓reduceIte] <;> rfl) (by simp only [cellsL, agg, List.toList_toArray, Row.cells, Cm.L, Rq.L, Ent.L] <;> rfl) (by rfl) (by first | rfl | assumption | exact Rs.oneC (by first | assumption | exact SH.rsR H (by (repeat first | exact At.here | apply At.there); done) | exact SH.rsO H (by (repeat first | exact At.here | apply At.there); done) | exact (Rs.nil : Rs Non _ _ _)) | (simp only [List.all_cons, List.all_nil, Bool.and_true, Bool.and_eq_true, Row.cells, Cm.L, Rq.L, Ent.L]; (repeat' constructor) <;> first | rfl | assumption | exact Rs.oneC (by first | assumption | exact SH.rsR H (by (repeat first | exact At.here | apply At.there); done) | exact SH.rsO H (by (repeat first | exact At.here | apply At.there); done) | exact (Rs.nil : Rs Non _ _ _)))) (by (repeat first | exact At.here | apply At.there); done) (by first | (simp; done) | decide | (show _ ≤ _; decide)) ?_
    clear H
    intro w6_3 H
    try dsimp only [replC, List.cons_append, List.nil_append, List.append_nil, agg, cellsL, Value.cells, List.toList_toArray, List.set_cons_zero, List.set_cons_succ, spliceL, List.take_succ_cons, List.take_zero, List.drop_succ_cons, List.drop_zero, List.length_cons, List.length_nil, Nat.reduceAdd, Row.cells, Cm.L, Rq.L, Ent.L] at H
    refine LW.nil ?_
    refine thenE_norm (h10 _ _ ?_); clear h10; try clear K10
    refine CW.region ?_
    refine r_move rfl ?_
    refine r_fieldAddrO rfl Try.underlying108 rfl Try.sizeOf29 (by decide) (show _ = 0 from rfl) rfl ?_
    refine r_loadA rfl Try.isAgg29 Try.sizeOf29 rfl (by first | exact SH.partOf (n := 5) H (by (repeat first | exact At.here | apply At.there); done) (by simp only [Row.cells, List.drop_succ_cons, List.drop_zero, List.take_succ_cons, List.take_zero, Cm.L, Rq.L, Ent.L] <;> rfl) | exact SH.cells H (by (repeat first | exact At.here | apply At.there); done)) (by rfl) ?_
    refine r_buildSliceA (vs := [_]) rfl Try.underlying30 Try.sizeOf29 Try.zeroValue29 rfl rfl rfl rfl (by simp only [List.map_cons, List.map_nil, List.toList_toArray, numbered, Nat.reduceAdd, upd_get, ev, Nat.reduceEqDiff, ↓reduceIte] <;> rfl) rfl (by intro v hv; simp only [List.mem_cons, List.not_mem_nil, or_false] at hv; rcases hv with rfl <;> rfl) ?_
    intro b7_3 w7_3 hb7_3 hs7_3 hE7_3 hB7_3
    replace H := SH.call H (SH.fromB hE7_3 hb7_3 hs7_3 hB7_3)
    clear hb7_3 hs7_3 hE7_3 hB7_3
    try dsimp only [replC, List.cons_append, List.nil_append, List.append_nil, agg, cellsL, Value.cells, List.toList_toArray, List.set_cons_zero, List.set_cons_succ, spliceL, List.take_succ_cons, List.take_zero, List.drop_succ_cons, List.drop_zero, List.length_cons, List.length_nil, Nat.reduceAdd, Row.cells, Cm.L, Rq.L, Ent.L] at H
    replace H := SH.row (b := b7_3) (xs := ([x.req] : List Rq)) (n := 1) (cap := 1) H (by (repeat first | exact At.here | apply At.there); done) (by simp only [flat, List.flatMap_cons, List.flatMap_nil, cellsL, agg, List.append_nil, List.cons_append, List.nil_append, List.toList_toArray, Row.cells, Cm.L, Rq.L, Ent.L] <;> rfl) (by intro x hx; first | rfl | (simp at hx; done) | (simp only [List.mem_cons, List.not_mem_nil, or_false] at hx; rcases hx with rfl <;> first | rfl | exact (by first | rfl | assumption | exact Rs.oneC (by first | assumption | exact SH.rsR H (by (repeat first | exact At.here | apply At.there); done) | exact SH.rsO H (by (repeat first | exact At.here | apply At.there); done) | exact (Rs.nil : Rs Non _ _ _)) | (simp only [List.all_cons, List.all_nil, Bool.and_true, Bool.and_eq_true, Row.cells, Cm.L, Rq.L, Ent.L]; (repeat' constructor) <;> first | rfl | assumption | exact Rs.oneC (by first | assumption | exact SH.rsR H (by (repeat first | exact At.here | apply At.there); done) | exact SH.rsO H (by (repeat first | exact At.here | apply At.there); done) | exact (Rs.nil : Rs Non _ _ _)))))) (by rfl) rfl (by decide)
    try dsimp only [replC, List.cons_append, List.nil_append, List.append_nil, agg, cellsL, Value.cells, List.toList_toArray, List.set_cons_zero, List.set_cons_succ, spliceL, List.take_succ_cons, List.take_zero, List.drop_succ_cons, List.drop_zero, List.length_cons, List.length_nil, Nat.reduceAdd, Row.cells, Cm.L, Rq.L, Ent.L] at H
    refine s_append H rfl Try.underlying30 Try.underlying30 Try.type29 rfl (by simp only [upd_get, ev, Nat.reduceEqDiff, ↓reduceIte] <;> rfl) (by simp only [upd_get, ev, Nat.reduceEqDiff, ↓reduceIte] <;> rfl) (by (repeat first | exact At.here | apply At.there); done) (by first | assumption | exact SH.rsR H (by (repeat first | exact At.here | apply At.there); done) | exact SH.rsO H (by (repeat first | exact At.here | apply At.there); done) | exact (Rs.nil : Rs Non _ _ _)) (by rfl) (by rfl) (by first | omega | (simp only [Try.t29, List.length_append, List.length_cons, List.length_nil, List.length_map, maxLen]; omega) | (simp [Try.t29, maxLen]; omega)) (by first | omega | (simp only [Try.t29, List.length_append, List.length_cons, List.length_nil, List.length_map, maxLen]; omega) | (simp [Try.t29, maxLen]; omega)) ?_
    clear H
    intro v7_4 w7_4 g7_4 H hN7_4
    try dsimp only [replC, List.cons_append, List.nil_append, List.append_nil] at H
    refine r_assign rfl ?_
    refine LW.nil ?_
    refine blockE_norm ?_
    refine thenE_norm (h9 _ _ ?_); clear h9; try clear K9
    refine CW.region ?_
    refine r_add rfl rfl rfl (wr_i64 (by omega) (by omega)) ?_
    refine r_move rfl ?_
    refine LW.nil ?_
    refine thenE_norm ⟨rfl, ?_⟩
    exact ⟨es.length - (i + 1), by omega, i + 1, _, _, rfl, by omega, rfl, by rw [V.take_snoc hx, List.map_append]; exact SH.sel H [0, 1, 2] (by decide) rfl⟩
  · try simp only [decide_eq_true_eq, decide_eq_false_iff_not, Bool.and_eq_true, Bool.or_eq_true, Bool.and_eq_false_iff, Bool.or_eq_false_iff, Bool.not_eq_true', Bool.not_eq_false', beq_iff_eq, bne_iff_ne, ne_eq, Decidable.not_not] at hc2
    refine CW.exit (thenE_exit (thenE_exit (blockE_hit ?_)))
    refine thenE_norm (h5 _ _ ?_); clear h5; try clear K5
    refine CW.seq (fun K11 h11 => ?_)
    refine CW.region ?_
    refine r_move rfl ?_
    refine r_assign rfl ?_
    refine LW.nil ?_
    refine thenE_norm (h11 _ _ ?_); clear h11; try clear K11
    refine CW.ret (ret1 Try.results23 (by simp only [upd_get, ev, Nat.reduceEqDiff, ↓reduceIte]; rfl) ?_)
    obtain rfl : i = es.length := by omega
    rw [List.take_length] at H
    exact ⟨_, _, rfl, (SH.give H (by repeat first | exact List.Sublist.refl _ | exact List.nil_sublist _ | apply List.Sublist.cons_cons | apply List.Sublist.cons) (by repeat first | exact trivial | refine ⟨trivial, ?_⟩))⟩
theorem ListZ_c (w : World) : Calls Try.prog 23 #[.pointer none] w fun e w' => e = .returned (.slice none 0 0) ∧ w = w' := by
  refine calls_of_CW Try.func23 rfl Try.ntmps23 (Nat.le_of_ble_eq_true rfl) ?_
  simp only [argE, argFrom, Nat.reduceAdd]
  refine CW.seq (fun K1 h1 => ?_)
  refine CW.region ?_
  refine r_assign rfl ?_
  refine LW.nil ?_
  refine thenE_norm (h1 _ _ ?_); clear h1; try clear K1
  refine CW.seq (fun K2 h2 => ?_)
  refine CW.region ?_
  refine r_assign rfl ?_
  refine LW.nil ?_
  refine thenE_norm (h2 _ _ ?_); clear h2; try clear K2
  refine CW.seq (fun K3 h3 => ?_)
  refine CW.seq (fun K4 h4 => ?_)
  refine CW.region ?_
  refine r_move rfl ?_
  refine r_eqlP rfl Try.underlying22 rfl rfl ?_
  refine LW.nil ?_
  refine thenE_norm (h4 _ _ ?_); clear h4; try clear K4
  refine CW.condT rfl (by first | rfl | (simp only [decide_eq_true_eq, decide_eq_false_iff_not, Bool.and_eq_true, Bool.or_eq_true, Bool.and_eq_false_iff, Bool.or_eq_false_iff, Bool.not_eq_true', Bool.not_eq_false', beq_iff_eq, bne_iff_ne]; omega) | simp_all) ?_
  refine CW.seq (fun K5 h5 => ?_)
  refine CW.region ?_
  refine r_assign rfl ?_
  refine LW.nil ?_
  refine thenE_norm (h5 _ _ ?_); clear h5; try clear K5
  refine CW.ret (thenE_ret (ret1 Try.results23 (by simp only [upd_get, ev, Nat.reduceEqDiff, ↓reduceIte]; rfl) ?_))
  exact ⟨rfl, rfl⟩
end Go.Proofs.Ytlfbofnfhhddbaa
