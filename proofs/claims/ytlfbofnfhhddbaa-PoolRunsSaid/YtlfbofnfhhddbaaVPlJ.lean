/-
  The walks of layer 19's functions, on: what was not told yet; what is let go.
-/
import Derived.Test.YtlfbofnfhhddbaaVMmA
import Derived.Test.YtlfbofnfhhddbaaVPlI
namespace Go.Proofs.Ytlfbofnfhhddbaa
set_option linter.unusedSimpArgs false
set_option linter.unusedVariables false
set_option maxRecDepth 20000
open Go.V Go.RowKit Go.ChangeShapes Go.WideShapes

theorem map_step {es : List Ent} {i : Nat} {x : Ent} (f : Ent → Ent) (h : es[i]? = some x) : ((es.take i).map f ++ es.drop i)[i]? = some x ∧ ((es.take i).map f ++ es.drop i).set i (f x) = (es.take (i + 1)).map f ++ es.drop (i + 1) := by
  have hl := lt_of_get h
  have hx : es[i] = x := by rw [List.getElem?_eq_getElem hl] at h; cases h; rfl
  have hlen : ((es.take i).map f).length = i := by simp; omega
  constructor
  · rw [List.getElem?_append_right (by omega), hlen, Nat.sub_self, List.getElem?_drop]; simpa using h
  · rw [List.set_append_right _ _ (by omega), hlen, Nat.sub_self, List.drop_eq_getElem_cons hl, hx, V.take_snoc h, List.map_append]
    simp
theorem map_same {es : List Ent} {i : Nat} {x : Ent} {f : Ent → Ent} (h : es[i]? = some x) (hf : f x = x) : (es.take (i + 1)).map f ++ es.drop (i + 1) = (es.take i).map f ++ es.drop i := by
  have hl := lt_of_get h
  have hx : es[i] = x := by rw [List.getElem?_eq_getElem hl] at h; cases h; rfl
  rw [V.take_snoc h, List.map_append, List.drop_eq_getElem_cons hl, hx]
  simp [hf]
theorem map_good {es : List Ent} {f : Ent → Ent} (hf : ∀ e, (f e).came = e.came) (h : goodQ es) : goodQ (es.map f) := ⟨by rw [List.length_map]; exact h.1, fun e he => by
  obtain ⟨a, ha, rfl⟩ := List.mem_map.1 he
  rw [hf]
  exact h.2 a ha⟩
def isNew (view : Int) (e : Ent) : Bool := !e.told || decide (e.view ≠ view)
def toldE (view : Int) (e : Ent) : Ent := if isNew view e = true then { e with told := true, view := view } else e
def newL (es : List Ent) (view : Int) : List Rq := (es.filter (isNew view)).map Ent.req
theorem newL_snoc {es : List Ent} {i : Nat} {x : Ent} (view : Int) (h : es[i]? = some x) : newL (es.take (i + 1)) view = newL (es.take i) view ++ (if isNew view x = true then [x.req] else []) := by
  rw [newL, V.take_snoc h, List.filter_append, List.map_append, ← newL]
  by_cases hq : isNew view x = true <;> simp [hq]
theorem newL_len (es : List Ent) (view : Int) : (newL es view).length ≤ es.length := by rw [newL, List.length_map]; exact List.length_filter_le _ _
theorem toldE_came (view : Int) (e : Ent) : (toldE view e).came = e.came := by unfold toldE; split <;> rfl
set_option maxHeartbeats 4000000 in
theorem PFresh_c {p : Nat} {es : List Ent} {FN : Nat → Prop} (view : Int) (w : World) (hN : PoolA p es FN w) :
    Calls Try.prog 52 #[.pointer (some ⟨p, 0, none⟩), .int .i64 view] w fun e w' => ∃ v' g' FN', e = .returned v' ∧ SH FN Non w w' [.P FN' (PoolA p (es.map (toldE view)) FN'), .O 29 v' (newL es view) g'] := by
  obtain ⟨hg, v, gp, hA⟩ := hN
  have H := SH.obj (G := Any) hA
  have h6 := hg.1
  refine calls_of_CW Try.func52 rfl Try.ntmps52 (Nat.le_of_ble_eq_true rfl) ?_
  simp only [argE, argFrom, Nat.reduceAdd]
  refine CW.seq (fun K1 h1 => ?_)
  refine CW.region ?_
  refine r_assign rfl ?_
  refine LW.nil ?_
  refine thenE_norm (h1 _ _ ?_); clear h1; try clear K1
  refine CW.seq (fun K2 h2 => ?_)
  refine CW.region ?_
  refine r_assign rfl ?_
  refine LW.nil ?_
  refine thenE_norm (h2 _ _ ?_); clear h2; try clear K2
  refine CW.seq (fun K3 h3 => ?_)
  refine CW.seq (fun K4 h4 => ?_)
  refine CW.region ?_
  refine r_move rfl ?_
  refine r_eqlP rfl Try.underlying22 rfl rfl ?_
  refine LW.nil ?_
  refine thenE_norm (h4 _ _ ?_); clear h4; try clear K4
  refine CW.condF rfl (by first | rfl | (simp only [decide_eq_true_eq, decide_eq_false_iff_not, Bool.and_eq_true, Bool.or_eq_true, Bool.and_eq_false_iff, Bool.or_eq_false_iff, Bool.not_eq_true', Bool.not_eq_false', beq_iff_eq, bne_iff_ne]; omega) | simp_all) ?_
  refine CW.skip ?_
  refine thenE_norm (h3 _ _ ?_); clear h3; try clear K3
  refine CW.seq (fun K5 h5 => ?_)
  refine CW.seq (fun K6 h6 => ?_)
  refine CW.region ?_
  refine r_move rfl ?_
  refine r_nilCheck rfl rfl ?_
  refine r_fieldAddrO rfl Try.underlying104 rfl Try.sizeOf102 (by decide) (show _ = 0 from rfl) rfl ?_
  refine r_load rfl Try.isAgg102 rfl (by first | exact SH.cellB H (by (repeat first | exact At.here | apply At.there); done) (by rfl) | exact SH.cellI H (by (repeat first | exact At.here | apply At.there); done) (by rfl) | assumption) ?_
  first
    | refine r_lenV rfl Try.underlying102 (by simp only [upd_get, ev, Nat.reduceEqDiff, ↓reduceIte] <;> rfl) (by first | assumption | exact SH.rsR H (by (repeat first | exact At.here | apply At.there); done) | exact SH.rsO H (by (repeat first | exact At.here | apply At.there); done) | exact (Rs.nil : Rs Non _ _ _)) ?_
    | refine r_len rfl Try.underlying102 rfl ?_
  refine r_move rfl ?_
  refine LW.nil ?_
  refine thenE_norm ?_
  refine cut (K := K6) [0, 1, 5, 14, 15] (fun σ => ?_)
  simp only [setL, keepE, upd_get, ev, Nat.reduceEqDiff, ↓reduceIte]
  refine h6 _ _ ?_; clear h6; try clear K6
  refine CW.block ?_
  refine CW.loopR [0, 1, 14] [5, 15] (fun m vs w' => ∃ (i : Nat) (u : Value) (g : Option Nat), vs = [u, .int .i64 i] ∧ i ≤ es.length ∧ m = es.length - i ∧ SH FN Any w w' [.B p 104 [v], .O 108 v ((es.take i).map (toldE view) ++ es.drop i) gp, .O 29 u (newL (es.take i) view) g]) (es.length) ?_ ?_
  · exact ⟨0, .slice none 0 0, none, rfl, by omega, by omega, H.addO (α := Rq) 29⟩
  try clear H
  rintro n1 vs1 wL1 σ ⟨i, u, g, rfl, hi, rfl, H⟩
  simp only [setL, keepE, upd_get, ev, Nat.reduceEqDiff, ↓reduceIte]
  refine CW.seq (fun K7 h7 => ?_)
  refine CW.region ?_
  refine r_lss rfl rfl rfl ?_
  refine LW.nil ?_
  refine thenE_norm (h7 _ _ ?_); clear h7; try clear K7
  refine CW.seq (fun K8 h8 => ?_)
  refine CW.cond rfl (fun hc2 => ?_) (fun hc2 => ?_)
  · try simp only [decide_eq_true_eq, decide_eq_false_iff_not, Bool.and_eq_true, Bool.or_eq_true, Bool.and_eq_false_iff, Bool.or_eq_false_iff, Bool.not_eq_true', Bool.not_eq_false', beq_iff_eq, bne_iff_ne, ne_eq, Decidable.not_not] at hc2
    refine CW.skip ?_
    refine thenE_norm (h8 _ _ ?_); clear h8; try clear K8
    refine CW.seq (fun K9 h9 => ?_)
    refine CW.block ?_
    refine CW.seq (fun K10 h10 => ?_)
    obtain ⟨x, hx⟩ := get_of_lt (show i < es.length by omega)
    obtain ⟨hx2, hcs⟩ := map_step (toldE view) hx
    have hms := map_same (f := toldE view) hx
    have hnl := newL_snoc view hx
    have hnn := newL_len (es.take i) view
    have htl : (es.take i).length ≤ es.length := by rw [List.length_take]; omega
    have hyl : ((es.take i).map (toldE view) ++ es.drop i).length = es.length := by simp; omega
    generalize hY : (es.take i).map (toldE view) ++ es.drop i = ys at *
    refine CW.region ?_
    refine r_move rfl ?_
    refine r_assign rfl ?_
    refine LW.nil ?_
    refine thenE_norm (h10 _ _ ?_); clear h10; try clear K10
    refine CW.seq (fun K11 h11 => ?_)
    refine CW.region ?_
    refine r_move rfl ?_
    refine r_nilCheck rfl rfl ?_
    refine r_fieldAddrO rfl Try.underlying104 rfl Try.sizeOf102 (by decide) (show _ = 0 from rfl) rfl ?_
    refine r_load rfl Try.isAgg102 rfl (by first | exact SH.cellB H (by (repeat first | exact At.here | apply At.there); done) (by rfl) | exact SH.cellI H (by (repeat first | exact At.here | apply At.there); done) (by rfl) | assumption) ?_
    refine r_move rfl ?_
    refine r_indexAddrV rfl Try.underlying102 (by simp only [upd_get, ev, Nat.reduceEqDiff, ↓reduceIte] <;> rfl) rfl (by first | assumption | exact SH.rsR H (by (repeat first | exact At.here | apply At.there); done) | exact SH.rsO H (by (repeat first | exact At.here | apply At.there); done) | exact (Rs.nil : Rs Non _ _ _)) (by exact Try.sizeOf108) (by omega) (by omega) ?_
    refine r_assign rfl ?_
    refine LW.nil ?_
    refine thenE_norm ?_
    refine cut (K := K11) [0, 1, 5, 7, 14, 15] (fun σ => ?_)
    simp only [setL, keepE, upd_get, ev, Nat.reduceEqDiff, ↓reduceIte]
    refine h11 _ _ ?_; clear h11; try clear K11
    refine CW.seq (fun K12 h12 => ?_)
    refine CW.region ?_
    refine r_move rfl ?_
    refine r_nilCheck rfl rfl ?_
    refine r_fieldAddrO rfl Try.underlying108 rfl Try.sizeOf4 (by decide) (show _ + 8 = _ from rfl) rfl ?_
    refine r_load rfl Try.isAgg4 rfl (by first | exact Rs.cell (by first | assumption | exact SH.rsR H (by (repeat first | exact At.here | apply At.there); done) | exact SH.rsO H (by (repeat first | exact At.here | apply At.there); done) | exact (Rs.nil : Rs Non _ _ _)) (by assumption) (by rfl) | exact Rs.cell0 (by first | assumption | exact SH.rsR H (by (repeat first | exact At.here | apply At.there); done) | exact SH.rsO H (by (repeat first | exact At.here | apply At.there); done) | exact (Rs.nil : Rs Non _ _ _)) (by assumption) (by rfl) | assumption) ?_
    refine r_not rfl rfl ?_
    refine r_move rfl ?_
    refine' LW.grpOr (n := 7) (ts := [0, 1, 5, 7, 14, 15]) (d := 36) (tj := 29) rfl (fun hg8_6 => ?_) (fun hg8_6 => ?_) (fun σ => ?_)
    rotate_left
    · simp only [List.take_succ_cons, List.take_zero]
      have hg8_6P := hg8_6
      try simp only [decide_eq_true_eq, decide_eq_false_iff_not, Bool.and_eq_true, Bool.or_eq_true, Bool.and_eq_false_iff, Bool.or_eq_false_iff, Bool.not_eq_true', Bool.not_eq_false', beq_iff_eq, bne_iff_ne] at hg8_6P
      refine LW.want rfl rfl hg8_6 ?_
      refine r_move rfl ?_
      refine LW.want rfl rfl hg8_6 ?_
      refine r_nilCheck rfl rfl ?_
      refine LW.want rfl rfl hg8_6 ?_
      refine r_fieldAddrO rfl Try.underlying108 rfl Try.sizeOf3 (by decide) (show _ + 9 = _ from rfl) rfl ?_
      refine LW.want rfl rfl hg8_6 ?_
      refine r_load rfl Try.isAgg3 rfl (by first | exact Rs.cell (by first | assumption | exact SH.rsR H (by (repeat first | exact At.here | apply At.there); done) | exact SH.rsO H (by (repeat first | exact At.here | apply At.there); done) | exact (Rs.nil : Rs Non _ _ _)) (by assumption) (by rfl) | exact Rs.cell0 (by first | assumption | exact SH.rsR H (by (repeat first | exact At.here | apply At.there); done) | exact SH.rsO H (by (repeat first | exact At.here | apply At.there); done) | exact (Rs.nil : Rs Non _ _ _)) (by assumption) (by rfl) | assumption) ?_
      refine LW.want rfl rfl hg8_6 ?_
      refine r_move rfl ?_
      refine LW.want rfl rfl hg8_6 ?_
      refine r_neq rfl rfl rfl ?_
      refine r_pickF rfl rfl hg8_6 ?_
      refine LW.nil (thenE_norm ⟨rfl, rfl, rfl⟩)
    · simp only [List.take_succ_cons, List.take_zero]
      refine LW.skip rfl (fun _ e => by cases e; decide) rfl hg8_6 ?_
      refine LW.skip rfl (fun _ e => by cases e; decide) rfl hg8_6 ?_
      refine LW.skip rfl (fun _ e => by cases e; decide) rfl hg8_6 ?_
      refine LW.skip rfl (fun _ e => by cases e; decide) rfl hg8_6 ?_
      refine LW.skip rfl (fun _ e => by cases e; decide) rfl hg8_6 ?_
      refine LW.skip rfl (fun _ e => by cases e; decide) rfl hg8_6 ?_
      refine r_pickT rfl rfl hg8_6 ?_
      refine LW.nil (thenE_norm ⟨rfl, rfl, rfl⟩)
    simp only [setL, keepE, upd_get, ev, Nat.reduceEqDiff, ↓reduceIte]; simp only [List.drop_succ_cons, List.drop_zero]
    refine LW.nil ?_
    refine thenE_norm (h12 _ _ ?_); clear h12; try clear K12
    refine CW.cond rfl (fun hc3 => ?_) (fun hc3 => ?_)
    · try simp only [decide_eq_true_eq, decide_eq_false_iff_not, Bool.and_eq_true, Bool.or_eq_true, Bool.and_eq_false_iff, Bool.or_eq_false_iff, Bool.not_eq_true', Bool.not_eq_false', beq_iff_eq, bne_iff_ne, ne_eq, Decidable.not_not] at hc3
      refine CW.seq (fun K13 h13 => ?_)
      refine CW.region ?_
      refine r_move rfl ?_
      refine r_move rfl ?_
      refine r_move rfl ?_
      refine r_nilCheck rfl rfl ?_
      refine r_fieldAddrO rfl Try.underlying108 rfl Try.sizeOf4 (by decide) (show _ + 8 = _ from rfl) rfl ?_
      refine s_storeR (o := 8) (x1 := { x with told := true }) H Try.sizeOf4 rfl (by simp only [upd_get, ev, Nat.reduceEqDiff, ↓reduceIte] <;> rfl) (by first | rfl | assumption | exact Rs.oneC (by first | assumption | exact SH.rsR H (by (repeat first | exact At.here | apply At.there); done) | exact SH.rsO H (by (repeat first | exact At.here | apply At.there); done) | exact (Rs.nil : Rs Non _ _ _)) | (simp only [List.all_cons, List.all_nil, Bool.and_true, Bool.and_eq_true, Row.cells, Gr.L, Rep.L, Mem.L, Cm.L, Rq.L, Ent.L, ActP.L]; (repeat' constructor) <;> first | rfl | assumption | exact Rs.oneC (by first | assumption | exact SH.rsR H (by (repeat first | exact At.here | apply At.there); done) | exact SH.rsO H (by (repeat first | exact At.here | apply At.there); done) | exact (Rs.nil : Rs Non _ _ _)))) (by (repeat first | exact At.here | apply At.there); done) (by assumption) (by rfl) (by rfl) (by rfl) (by first | rfl | assumption | exact Rs.oneC (by first | assumption | exact SH.rsR H (by (repeat first | exact At.here | apply At.there); done) | exact SH.rsO H (by (repeat first | exact At.here | apply At.there); done) | exact (Rs.nil : Rs Non _ _ _)) | (simp only [List.all_cons, List.all_nil, Bool.and_true, Bool.and_eq_true, Row.cells, Gr.L, Rep.L, Mem.L, Cm.L, Rq.L, Ent.L, ActP.L]; (repeat' constructor) <;> first | rfl | assumption | exact Rs.oneC (by first | assumption | exact SH.rsR H (by (repeat first | exact At.here | apply At.there); done) | exact SH.rsO H (by (repeat first | exact At.here | apply At.there); done) | exact (Rs.nil : Rs Non _ _ _)))) ?_
      clear H
      intro w9_5 H
      try dsimp only [replC, List.cons_append, List.nil_append, List.append_nil, agg, cellsL, Value.cells, List.toList_toArray, List.set_cons_zero, List.set_cons_succ, spliceL, List.take_succ_cons, List.take_zero, List.drop_succ_cons, List.drop_zero, List.length_cons, List.length_nil, Nat.reduceAdd, Row.cells, Gr.L, Rep.L, Mem.L, Cm.L, Rq.L, Ent.L, ActP.L] at H
      refine r_nilCheck rfl rfl ?_
      refine r_fieldAddrO rfl Try.underlying108 rfl Try.sizeOf3 (by decide) (show _ + 9 = _ from rfl) rfl ?_
      refine s_storeR (o := 9) (x1 := { x with told := true, view := view }) H Try.sizeOf3 rfl (by simp only [upd_get, ev, Nat.reduceEqDiff, ↓reduceIte] <;> rfl) (by first | rfl | assumption | exact Rs.oneC (by first | assumption | exact SH.rsR H (by (repeat first | exact At.here | apply At.there); done) | exact SH.rsO H (by (repeat first | exact At.here | apply At.there); done) | exact (Rs.nil : Rs Non _ _ _)) | (simp only [List.all_cons, List.all_nil, Bool.and_true, Bool.and_eq_true, Row.cells, Gr.L, Rep.L, Mem.L, Cm.L, Rq.L, Ent.L, ActP.L]; (repeat' constructor) <;> first | rfl | assumption | exact Rs.oneC (by first | assumption | exact SH.rsR H (by (repeat first | exact At.here | apply At.there); done) | exact SH.rsO H (by (repeat first | exact At.here | apply At.there); done) | exact (Rs.nil : Rs Non _ _ _)))) (by (repeat first | exact At.here | apply At.there); done) (by first | exact List.getElem?_set_self (by omega) | (simp; omega)) (by rfl) (by rfl) (by rfl) (by first | rfl | assumption | exact Rs.oneC (by first | assumption | exact SH.rsR H (by (repeat first | exact At.here | apply At.there); done) | exact SH.rsO H (by (repeat first | exact At.here | apply At.there); done) | exact (Rs.nil : Rs Non _ _ _)) | (simp only [List.all_cons, List.all_nil, Bool.and_true, Bool.and_eq_true, Row.cells, Gr.L, Rep.L, Mem.L, Cm.L, Rq.L, Ent.L, ActP.L]; (repeat' constructor) <;> first | rfl | assumption | exact Rs.oneC (by first | assumption | exact SH.rsR H (by (repeat first | exact At.here | apply At.there); done) | exact SH.rsO H (by (repeat first | exact At.here | apply At.there); done) | exact (Rs.nil : Rs Non _ _ _)))) ?_
      clear H
      intro w9_8 H
      try dsimp only [replC, List.cons_append, List.nil_append, List.append_nil, agg, cellsL, Value.cells, List.toList_toArray, List.set_cons_zero, List.set_cons_succ, spliceL, List.take_succ_cons, List.take_zero, List.drop_succ_cons, List.drop_zero, List.length_cons, List.length_nil, Nat.reduceAdd, Row.cells, Gr.L, Rep.L, Mem.L, Cm.L, Rq.L, Ent.L, ActP.L] at H
      refine LW.nil ?_
      refine thenE_norm ?_
      refine cut (K := K13) [0, 1, 5, 7, 14, 15] (fun σ => ?_)
      simp only [setL, keepE, upd_get, ev, Nat.reduceEqDiff, ↓reduceIte]
      refine h13 _ _ ?_; clear h13; try clear K13
      simp only [List.set_set, Int.toNat_natCast] at H
      have hx3 : (ys.set i { x with told := true, view := view })[i]? = some { x with told := true, view := view } := List.getElem?_set_self (by omega)
      refine CW.region ?_
      refine r_move rfl ?_
      refine r_move rfl ?_
      refine r_nilCheck rfl rfl ?_
      refine r_fieldAddrO rfl Try.underlying108 rfl Try.sizeOf29 (by decide) (show _ + 0 = _ from rfl) rfl ?_
      refine r_loadA rfl Try.isAgg29 Try.sizeOf29 rfl (by first | exact Rs.partOf (n := 5) (by first | assumption | exact SH.rsR H (by (repeat first | exact At.here | apply At.there); done) | exact SH.rsO H (by (repeat first | exact At.here | apply At.there); done) | exact (Rs.nil : Rs Non _ _ _)) (by assumption) (by simp only [Row.cells, List.drop_succ_cons, List.drop_zero, List.take_succ_cons, List.take_zero, Gr.L, Rep.L, Mem.L, Cm.L, Rq.L, Ent.L, ActP.L] <;> rfl) | exact Rs.cells0 (by first | assumption | exact SH.rsR H (by (repeat first | exact At.here | apply At.there); done) | exact SH.rsO H (by (repeat first | exact At.here | apply At.there); done) | exact (Rs.nil : Rs Non _ _ _)) (by assumption)) (by rfl) ?_
      refine r_buildSliceA (vs := [_]) rfl Try.underlying30 Try.sizeOf29 Try.zeroValue29 rfl rfl rfl rfl (by simp only [List.map_cons, List.map_nil, List.toList_toArray, numbered, Nat.reduceAdd, upd_get, ev, Nat.reduceEqDiff, ↓reduceIte] <;> rfl) rfl (by intro v hv; simp only [List.mem_cons, List.not_mem_nil, or_false] at hv; rcases hv with rfl <;> rfl) ?_
      intro b10_5 w10_5 hb10_5 hs10_5 hE10_5 hB10_5
      replace H := SH.call H (SH.fromB hE10_5 hb10_5 hs10_5 hB10_5)
      clear hb10_5 hs10_5 hE10_5 hB10_5
      try dsimp only [replC, List.cons_append, List.nil_append, List.append_nil, agg, cellsL, Value.cells, List.toList_toArray, List.set_cons_zero, List.set_cons_succ, spliceL, List.take_succ_cons, List.take_zero, List.drop_succ_cons, List.drop_zero, List.length_cons, List.length_nil, Nat.reduceAdd, Row.cells, Gr.L, Rep.L, Mem.L, Cm.L, Rq.L, Ent.L, ActP.L] at H
      replace H := SH.row (b := b10_5) (xs := ([⟨_, _, ⟨_, _, _⟩⟩] : List Rq)) (n := 1) (cap := 1) H (by (repeat first | exact At.here | apply At.there); done) (by simp only [flat, List.flatMap_cons, List.flatMap_nil, cellsL, agg, List.append_nil, List.cons_append, List.nil_append, List.toList_toArray, Row.cells, Gr.L, Rep.L, Mem.L, Cm.L, Rq.L, Ent.L, ActP.L] <;> rfl) (by intro x hx; first | rfl | (simp at hx; done) | (simp only [List.mem_cons, List.not_mem_nil, or_false] at hx; rcases hx with rfl <;> first | rfl | exact (by first | rfl | assumption | exact Rs.oneC (by first | assumption | exact SH.rsR H (by (repeat first | exact At.here | apply At.there); done) | exact SH.rsO H (by (repeat first | exact At.here | apply At.there); done) | exact (Rs.nil : Rs Non _ _ _)) | (simp only [List.all_cons, List.all_nil, Bool.and_true, Bool.and_eq_true, Row.cells, Gr.L, Rep.L, Mem.L, Cm.L, Rq.L, Ent.L, ActP.L]; (repeat' constructor) <;> first | rfl | assumption | exact Rs.oneC (by first | assumption | exact SH.rsR H (by (repeat first | exact At.here | apply At.there); done) | exact SH.rsO H (by (repeat first | exact At.here | apply At.there); done) | exact (Rs.nil : Rs Non _ _ _)))))) (by rfl) rfl (by decide)
      try dsimp only [replC, List.cons_append, List.nil_append, List.append_nil, agg, cellsL, Value.cells, List.toList_toArray, List.set_cons_zero, List.set_cons_succ, spliceL, List.take_succ_cons, List.take_zero, List.drop_succ_cons, List.drop_zero, List.length_cons, List.length_nil, Nat.reduceAdd, Row.cells, Gr.L, Rep.L, Mem.L, Cm.L, Rq.L, Ent.L, ActP.L] at H
      refine s_append H rfl Try.underlying30 Try.underlying30 Try.type29 rfl (by simp only [upd_get, ev, Nat.reduceEqDiff, ↓reduceIte] <;> rfl) (by simp only [upd_get, ev, Nat.reduceEqDiff, ↓reduceIte] <;> rfl) (by (repeat first | exact At.here | apply At.there); done) (by first | assumption | exact SH.rsR H (by (repeat first | exact At.here | apply At.there); done) | exact SH.rsO H (by (repeat first | exact At.here | apply At.there); done) | exact (Rs.nil : Rs Non _ _ _)) (by rfl) (by rfl) (by first | omega | (simp only [Try.t29, List.length_append, List.length_cons, List.length_nil, List.length_map, maxLen]; omega) | (simp [Try.t29, maxLen]; omega)) (by first | omega | (simp only [Try.t29, List.length_append, List.length_cons, List.length_nil, List.length_map, maxLen]; omega) | (simp [Try.t29, maxLen]; omega)) ?_
      clear H
      intro v10_6 w10_6 g10_6 H hN10_6
      try dsimp only [replC, List.cons_append, List.nil_append, List.append_nil] at H
      refine r_assign rfl ?_
      refine LW.nil ?_
      refine blockE_norm ?_
      refine thenE_norm (h9 _ _ ?_); clear h9; try clear K9
      refine CW.region ?_
      refine r_add rfl rfl rfl (wr_i64 (by omega) (by omega)) ?_
      refine r_move rfl ?_
      refine LW.nil ?_
      refine thenE_norm ⟨rfl, ?_⟩
      have hnew : isNew view x = true := by simp [isNew]; simpa using hc3
      exact ⟨es.length - (i + 1), by omega, i + 1, _, _, rfl, by omega, rfl, by rw [hnl, if_pos hnew, ← hcs, toldE, if_pos hnew]; exact SH.sel H [0, 1, 2] (by decide) rfl⟩
    · try simp only [decide_eq_true_eq, decide_eq_false_iff_not, Bool.and_eq_true, Bool.or_eq_true, Bool.and_eq_false_iff, Bool.or_eq_false_iff, Bool.not_eq_true', Bool.not_eq_false', beq_iff_eq, bne_iff_ne, ne_eq, Decidable.not_not] at hc3
      refine CW.skip ?_
      refine blockE_norm ?_
      refine thenE_norm (h9 _ _ ?_); clear h9; try clear K9
      refine CW.region ?_
      refine r_add rfl rfl rfl (wr_i64 (by omega) (by omega)) ?_
      refine r_move rfl ?_
      refine LW.nil ?_
      refine thenE_norm ⟨rfl, ?_⟩
      have hnew : ¬ isNew view x = true := by simp [isNew]; simpa using hc3
      exact ⟨es.length - (i + 1), by omega, i + 1, _, _, rfl, by omega, rfl, by rw [hnl, if_neg hnew, List.append_nil, hms (by rw [toldE, if_neg hnew])]; exact H⟩
  · try simp only [decide_eq_true_eq, decide_eq_false_iff_not, Bool.and_eq_true, Bool.or_eq_true, Bool.and_eq_false_iff, Bool.or_eq_false_iff, Bool.not_eq_true', Bool.not_eq_false', beq_iff_eq, bne_iff_ne, ne_eq, Decidable.not_not] at hc2
    refine CW.exit (thenE_exit (thenE_exit (blockE_hit ?_)))
    refine thenE_norm (h5 _ _ ?_); clear h5; try clear K5
    refine CW.seq (fun K14 h14 => ?_)
    refine CW.region ?_
    refine r_move rfl ?_
    refine r_assign rfl ?_
    refine LW.nil ?_
    refine thenE_norm (h14 _ _ ?_); clear h14; try clear K14
    refine CW.ret (ret1 Try.results52 (by simp only [upd_get, ev, Nat.reduceEqDiff, ↓reduceIte]; rfl) ?_)
    obtain rfl : i = es.length := by omega
    rw [List.take_length, List.drop_length, List.append_nil] at H
    obtain ⟨FN', K⟩ := PoolA.mkL (map_good (toldE_came view) hg) H
    exact ⟨_, _, _, rfl, SH.give K (List.Sublist.refl _) ⟨trivial, trivial, trivial⟩⟩
set_option maxRecDepth 20000 in
theorem DelfE_c {v fv : Value} {xs : List Ent} {g : Option Nat} {S : World → Prop} {p : Ent → Bool} {D : Ent → Prop} (w : World) (hv : Ow 108 w v xs g) (hp : PredF Try.prog S fv agg p D) (hD : ∀ x ∈ xs, D x) (hS : ∀ w', Ext (fun b => g = some b) w w' → S w') :
    Calls Try.prog 93 #[v, fv] w fun e w' => ∃ v', e = .returned v' ∧ SH (fun b => g = some b) Non w w' [.O 108 v' (xs.filter fun x => !p x) g] := by
  have h63 := hv.rs.len63
  have hone := hv.2
  have H := SH.own1 hv
  have hp' := hp
  obtain ⟨f, fs, cs, rfl, hcf, hcall⟩ := hp
  refine calls_of_CW Try.func93 rfl Try.ntmps93 (Nat.le_of_ble_eq_true rfl) ?_
  simp only [argE, argFrom, Nat.reduceAdd]
  refine CW.seq (fun K1 h1 => ?_)
  refine CW.region ?_
  refine r_assign rfl ?_
  refine LW.nil ?_
  refine thenE_norm (h1 _ _ ?_); clear h1; try clear K1
  refine CW.seq (fun K2 h2 => ?_)
  refine CW.region ?_
  refine r_move rfl ?_
  refine r_move rfl ?_
  refine r_call rfl Try.call71 (by simp only [List.map_cons, List.map_nil, List.map_toArray, List.toList_toArray, upd_get, ev, Nat.reduceEqDiff, ↓reduceIte] <;> rfl) (IxfE_c _ (by first | assumption | exact SH.rsR H (by (repeat first | exact At.here | apply At.there); done) | exact SH.rsO H (by (repeat first | exact At.here | apply At.there); done) | exact Rs.toH (by first | assumption | exact SH.rsR H (by (repeat first | exact At.here | apply At.there); done) | exact SH.rsO H (by (repeat first | exact At.here | apply At.there); done)) (by omega) | exact Rs.toL (by first | assumption | exact SH.rsR H (by (repeat first | exact At.here | apply At.there); done) | exact SH.rsO H (by (repeat first | exact At.here | apply At.there); done)) (by omega) | exact Rs.toLH (by first | assumption | exact SH.rsR H (by (repeat first | exact At.here | apply At.there); done) | exact SH.rsO H (by (repeat first | exact At.here | apply At.there); done)) (by omega) (by omega) | exact (Rs.nil : Rs Non _ _ _)) hp' hD (fun w' e => hS w' (H.ext.trans0 e))) ?_
  rintro _ w1_2 ⟨rfl, X⟩
  refine ⟨_, rfl, ?_⟩
  replace H := SH.same H X
  clear X
  refine r_assign rfl ?_
  refine LW.nil ?_
  refine thenE_norm (h2 _ _ ?_); clear h2; try clear K2
  refine CW.seq (fun K3 h3 => ?_)
  refine CW.seq (fun K4 h4 => ?_)
  refine CW.region ?_
  refine r_move rfl ?_
  refine r_eql rfl rfl rfl ?_
  refine LW.nil ?_
  refine thenE_norm (h4 _ _ ?_); clear h4; try clear K4
  refine CW.cond rfl (fun hc1 => ?_) (fun hc1 => ?_)
  · try simp only [decide_eq_true_eq, decide_eq_false_iff_not, Bool.and_eq_true, Bool.or_eq_true, Bool.and_eq_false_iff, Bool.or_eq_false_iff, Bool.not_eq_true', Bool.not_eq_false', beq_iff_eq, bne_iff_ne, ne_eq, Decidable.not_not] at hc1
    refine CW.seq (fun K5 h5 => ?_)
    refine CW.region ?_
    refine r_move rfl ?_
    refine r_assign rfl ?_
    refine LW.nil ?_
    refine thenE_norm ?_
    refine cut (K := K5) [4] (fun σ => ?_)
    simp only [setL, keepE, upd_get, ev, Nat.reduceEqDiff, ↓reduceIte]
    refine h5 _ _ ?_; clear h5; try clear K5
    refine CW.ret (thenE_ret (ret1 Try.results93 (by simp only [upd_get, ev, Nat.reduceEqDiff, ↓reduceIte]; rfl) ?_))
    have hno : xs.any p = false := by
      cases h : xs.any p
      · rfl
      · rw [findM, if_pos h] at hc1; omega
    have hf : (xs.filter fun x => !p x) = xs := List.filter_eq_self.2 fun x hx => by have := List.any_eq_false.1 hno x hx; simpa using this
    rw [hf]
    exact ⟨_, rfl, H⟩
  · try simp only [decide_eq_true_eq, decide_eq_false_iff_not, Bool.and_eq_true, Bool.or_eq_true, Bool.and_eq_false_iff, Bool.or_eq_false_iff, Bool.not_eq_true', Bool.not_eq_false', beq_iff_eq, bne_iff_ne, ne_eq, Decidable.not_not] at hc1
    refine CW.skip ?_
    refine thenE_norm (h3 _ _ ?_); clear h3; try clear K3
    refine CW.seq (fun K6 h6 => ?_)
    refine CW.seq (fun K7 h7 => ?_)
    have hany : xs.any p = true := by
      cases h : xs.any p
      · rw [findM, h] at hc1; exact absurd rfl hc1
      · rfl
    have hfi : xs.findIdx p < xs.length := List.findIdx_lt_length_of_exists (by simpa using hany)
    have hfm : findM p xs = (xs.findIdx p : Int) := by rw [findM, if_pos hany]
    rw [hfm]
    generalize hI : xs.findIdx p = i0 at *
    refine CW.region ?_
    refine r_move rfl ?_
    refine r_add rfl rfl rfl (wr_i64 (by omega) (by omega)) ?_
    refine r_assign rfl ?_
    refine LW.nil ?_
    refine thenE_norm ?_
    refine cut (K := K7) [0, 1, 5, 6] (fun σ => ?_)
    simp only [setL, keepE, upd_get, ev, Nat.reduceEqDiff, ↓reduceIte]
    refine h7 _ _ ?_; clear h7; try clear K7
    refine CW.block ?_
    refine CW.loopR [0, 1] [5, 6] (fun m vs w' => ∃ (i j : Nat) (ys : List Ent), vs = [.int .i64 i, .int .i64 j] ∧ i < j ∧ j ≤ xs.length ∧ m = xs.length - j ∧ ys.length = xs.length ∧ ys.take i = (xs.take j).filter (fun x => !p x) ∧ ys.drop j = xs.drop j ∧ SH (fun b => g = some b) Non w w' [.O 108 v ys g]) ((xs.length - (i0 + 1))) ?_ ?_
    · refine ⟨i0, i0 + 1, xs, rfl, by omega, by omega, rfl, rfl, ?_, rfl, H⟩
      obtain ⟨x, hx⟩ := get_of_lt hfi
      have hl := lt_of_get hx
      have hpx : p x = true := by
        have := List.findIdx_getElem (p := p) (xs := xs) (w := by omega)
        have e : xs[i0]'hl = x := by rw [List.getElem?_eq_getElem hl] at hx; cases hx; rfl
        simp only [hI, e] at this
        exact this
      rw [V.take_snoc hx, List.filter_append]
      have h1 : (xs.take i0).filter (fun x => !p x) = xs.take i0 := List.filter_eq_self.2 fun y hy => by
        obtain ⟨k, hk, rfl⟩ := List.mem_take_iff_getElem.1 hy
        have := List.not_of_lt_findIdx (p := p) (xs := xs) (i := k) (by omega)
        simpa using this
      rw [h1]; simp [hpx]
    try clear H
    rintro n1 vs1 wL1 σ ⟨i, j, ys, rfl, hij, hj, rfl, hyl, htk, hdr, H⟩
    simp only [setL, keepE, upd_get, ev, Nat.reduceEqDiff, ↓reduceIte]
    refine CW.seq (fun K8 h8 => ?_)
    refine CW.seq (fun K9 h9 => ?_)
    refine CW.region ?_
    refine r_move rfl ?_
    refine r_move rfl ?_
    first
      | refine r_lenV rfl Try.underlying102 (by simp only [upd_get, ev, Nat.reduceEqDiff, ↓reduceIte] <;> rfl) (by first | assumption | exact SH.rsR H (by (repeat first | exact At.here | apply At.there); done) | exact SH.rsO H (by (repeat first | exact At.here | apply At.there); done) | exact Rs.toH (by first | assumption | exact SH.rsR H (by (repeat first | exact At.here | apply At.there); done) | exact SH.rsO H (by (repeat first | exact At.here | apply At.there); done)) (by omega) | exact Rs.toL (by first | assumption | exact SH.rsR H (by (repeat first | exact At.here | apply At.there); done) | exact SH.rsO H (by (repeat first | exact At.here | apply At.there); done)) (by omega) | exact Rs.toLH (by first | assumption | exact SH.rsR H (by (repeat first | exact At.here | apply At.there); done) | exact SH.rsO H (by (repeat first | exact At.here | apply At.there); done)) (by omega) (by omega) | exact (Rs.nil : Rs Non _ _ _)) ?_
      | refine r_len rfl Try.underlying102 rfl ?_
    refine r_lss rfl rfl rfl ?_
    refine LW.nil ?_
    refine thenE_norm (h9 _ _ ?_); clear h9; try clear K9
    refine CW.cond rfl (fun hc2 => ?_) (fun hc2 => ?_)
    · try simp only [decide_eq_true_eq, decide_eq_false_iff_not, Bool.and_eq_true, Bool.or_eq_true, Bool.and_eq_false_iff, Bool.or_eq_false_iff, Bool.not_eq_true', Bool.not_eq_false', beq_iff_eq, bne_iff_ne, ne_eq, Decidable.not_not] at hc2
      refine CW.skip ?_
      refine thenE_norm (h8 _ _ ?_); clear h8; try clear K8
      refine CW.seq (fun K10 h10 => ?_)
      refine CW.block ?_
      refine CW.seq (fun K11 h11 => ?_)
      obtain ⟨x, hx⟩ := get_of_lt (show j < ys.length by omega)
      obtain ⟨x0, hx0⟩ := get_of_lt (show i < ys.length by omega)
      have hxx : xs[j]? = some x := by
        have h1 : (ys.drop j)[0]? = some x := by simpa using hx
        rw [hdr] at h1
        simpa using h1
      have hxo : (Row.cells x).all oneC = true := hone x (List.mem_of_getElem? hxx)
      have hdr2 : ys.drop (j + 1) = xs.drop (j + 1) := by rw [← List.drop_drop, ← List.drop_drop, hdr]
      refine CW.region ?_
      refine r_move rfl ?_
      refine r_move rfl ?_
      refine r_indexAddrV rfl Try.underlying102 (by simp only [upd_get, ev, Nat.reduceEqDiff, ↓reduceIte] <;> rfl) rfl (by first | assumption | exact SH.rsR H (by (repeat first | exact At.here | apply At.there); done) | exact SH.rsO H (by (repeat first | exact At.here | apply At.there); done) | exact Rs.toH (by first | assumption | exact SH.rsR H (by (repeat first | exact At.here | apply At.there); done) | exact SH.rsO H (by (repeat first | exact At.here | apply At.there); done)) (by omega) | exact Rs.toL (by first | assumption | exact SH.rsR H (by (repeat first | exact At.here | apply At.there); done) | exact SH.rsO H (by (repeat first | exact At.here | apply At.there); done)) (by omega) | exact Rs.toLH (by first | assumption | exact SH.rsR H (by (repeat first | exact At.here | apply At.there); done) | exact SH.rsO H (by (repeat first | exact At.here | apply At.there); done)) (by omega) (by omega) | exact (Rs.nil : Rs Non _ _ _)) (by exact Try.sizeOf108) (by omega) (by omega) ?_
      refine r_loadA rfl Try.isAgg108 Try.sizeOf108 rfl (by first | exact Rs.cell0 (by exact SH.rsO H At.here) hx (by rfl) | exact Rs.cells0 (by exact SH.rsO H At.here) hx) rfl ?_
      refine s_alloc (cs := [.int .i64 0, .int .i64 0, .int .i64 0, .int .i64 0, .string (ByteArray.mk #[]), .int .i64 0, .bool false, .int .i64 0, .bool false, .int .i64 0]) H rfl Try.zeroValue108 rfl ?_
      clear H
      intro b7_4 w7_4 H
      try dsimp only [replC, List.cons_append, List.nil_append, List.append_nil, agg, cellsL, Value.cells, List.toList_toArray, List.set_cons_zero, List.set_cons_succ, spliceL, List.take_succ_cons, List.take_zero, List.drop_succ_cons, List.drop_zero, List.length_cons, List.length_nil, Nat.reduceAdd, Row.cells, Gr.L, Rep.L, Mem.L, Cm.L, Rq.L, Ent.L, ActP.L] at H
      refine s_storeA H Try.sizeOf108 rfl (by simp only [upd_get, ev, Nat.reduceEqDiff, ↓reduceIte] <;> rfl) (by simp only [cellsL, agg, List.toList_toArray, Row.cells, Gr.L, Rep.L, Mem.L, Cm.L, Rq.L, Ent.L, ActP.L] <;> rfl) (by rfl) (by first | rfl | assumption | exact Rs.oneC (by first | assumption | exact SH.rsR H (by (repeat first | exact At.here | apply At.there); done) | exact SH.rsO H (by (repeat first | exact At.here | apply At.there); done) | exact Rs.toH (by first | assumption | exact SH.rsR H (by (repeat first | exact At.here | apply At.there); done) | exact SH.rsO H (by (repeat first | exact At.here | apply At.there); done)) (by omega) | exact Rs.toL (by first | assumption | exact SH.rsR H (by (repeat first | exact At.here | apply At.there); done) | exact SH.rsO H (by (repeat first | exact At.here | apply At.there); done)) (by omega) | exact Rs.toLH (by first | assumption | exact SH.rsR H (by (repeat first | exact At.here | apply At.there); done) | exact SH.rsO H (by (repeat first | exact At.here | apply At.there); done)) (by omega) (by omega) | exact (Rs.nil : Rs Non _ _ _)) | (simp only [List.all_cons, List.all_nil, Bool.and_true, Bool.and_eq_true, Row.cells, Gr.L, Rep.L, Mem.L, Cm.L, Rq.L, Ent.L, ActP.L]; (repeat' constructor) <;> first | rfl | assumption | exact Rs.oneC (by first | assumption | exact SH.rsR H (by (repeat first | exact At.here | apply At.there); done) | exact SH.rsO H (by (repeat first | exact At.here | apply At.there); done) | exact Rs.toH (by first | assumption | exact SH.rsR H (by (repeat first | exact At.here | apply At.there); done) | exact SH.rsO H (by (repeat first | exact At.here | apply At.there); done)) (by omega) | exact Rs.toL (by first | assumption | exact SH.rsR H (by (repeat first | exact At.here | apply At.there); done) | exact SH.rsO H (by (repeat first | exact At.here | apply At.there); done)) (by omega) | exact Rs.toLH (by first | assumption | exact SH.rsR H (by (repeat first | exact At.here | apply At.there); done) | exact SH.rsO H (by (repeat first | exact At.here | apply At.there); done)) (by omega) (by omega) | exact (Rs.nil : Rs Non _ _ _)))) (by (repeat first | exact At.here | apply At.there); done) (by first | (simp; done) | decide | (show _ ≤ _; decide)) ?_
      clear H
      intro w7_5 H
      try dsimp only [replC, List.cons_append, List.nil_append, List.append_nil, agg, cellsL, Value.cells, List.toList_toArray, List.set_cons_zero, List.set_cons_succ, spliceL, List.take_succ_cons, List.take_zero, List.drop_succ_cons, List.drop_zero, List.length_cons, List.length_nil, Nat.reduceAdd, Row.cells, Gr.L, Rep.L, Mem.L, Cm.L, Rq.L, Ent.L, ActP.L] at H
      refine LW.nil ?_
      refine thenE_norm ?_
      refine cut (K := K11) [0, 1, 5, 6, 7] (fun σ => ?_)
      simp only [setL, keepE, upd_get, ev, Nat.reduceEqDiff, ↓reduceIte]
      refine h11 _ _ ?_; clear h11; try clear K11
      refine CW.seq (fun K12 h12 => ?_)
      refine CW.region ?_
      refine r_move rfl ?_
      refine r_loadA rfl Try.isAgg108 Try.sizeOf108 rfl (by first | exact SH.cells H (by (repeat first | exact At.here | apply At.there); done)) (by rfl) ?_
      refine r_callV rfl rfl hcf (by simp only [List.map_cons, List.map_nil, List.map_toArray, List.toList_toArray, upd_get, ev, Nat.reduceEqDiff, ↓reduceIte] <;> rfl) rfl (hcall x _ (hD x (List.mem_of_getElem? hxx)) (hS _ H.ext)) ?_
      rintro _ w8_2 ⟨rfl, X⟩
      refine ⟨_, rfl, ?_⟩
      replace H := SH.same H X
      clear X
      refine r_not rfl rfl ?_
      refine LW.nil ?_
      refine thenE_norm (h12 _ _ ?_); clear h12; try clear K12
      refine CW.cond rfl (fun hc3 => ?_) (fun hc3 => ?_)
      · try simp only [decide_eq_true_eq, decide_eq_false_iff_not, Bool.and_eq_true, Bool.or_eq_true, Bool.and_eq_false_iff, Bool.or_eq_false_iff, Bool.not_eq_true', Bool.not_eq_false', beq_iff_eq, bne_iff_ne, ne_eq, Decidable.not_not] at hc3
        refine CW.seq (fun K13 h13 => ?_)
        refine CW.region ?_
        refine r_move rfl ?_
        refine r_move rfl ?_
        refine r_loadA rfl Try.isAgg108 Try.sizeOf108 rfl (by first | exact SH.cells H (by (repeat first | exact At.here | apply At.there); done)) (by rfl) ?_
        refine r_indexAddrV rfl Try.underlying102 (by simp only [upd_get, ev, Nat.reduceEqDiff, ↓reduceIte] <;> rfl) rfl (by first | assumption | exact SH.rsR H (by (repeat first | exact At.here | apply At.there); done) | exact SH.rsO H (by (repeat first | exact At.here | apply At.there); done) | exact Rs.toH (by first | assumption | exact SH.rsR H (by (repeat first | exact At.here | apply At.there); done) | exact SH.rsO H (by (repeat first | exact At.here | apply At.there); done)) (by omega) | exact Rs.toL (by first | assumption | exact SH.rsR H (by (repeat first | exact At.here | apply At.there); done) | exact SH.rsO H (by (repeat first | exact At.here | apply At.there); done)) (by omega) | exact Rs.toLH (by first | assumption | exact SH.rsR H (by (repeat first | exact At.here | apply At.there); done) | exact SH.rsO H (by (repeat first | exact At.here | apply At.there); done)) (by omega) (by omega) | exact (Rs.nil : Rs Non _ _ _)) (by exact Try.sizeOf108) (by omega) (by omega) ?_
        refine s_storeRA (o := 0) (x1 := x) H Try.sizeOf108 rfl (by simp only [upd_get, ev, Nat.reduceEqDiff, ↓reduceIte] <;> rfl) (by simp only [cellsL, agg, List.toList_toArray, Row.cells, Gr.L, Rep.L, Mem.L, Cm.L, Rq.L, Ent.L, ActP.L] <;> rfl) (by rfl) (by first | rfl | assumption | exact Rs.oneC (by first | assumption | exact SH.rsR H (by (repeat first | exact At.here | apply At.there); done) | exact SH.rsO H (by (repeat first | exact At.here | apply At.there); done) | exact Rs.toH (by first | assumption | exact SH.rsR H (by (repeat first | exact At.here | apply At.there); done) | exact SH.rsO H (by (repeat first | exact At.here | apply At.there); done)) (by omega) | exact Rs.toL (by first | assumption | exact SH.rsR H (by (repeat first | exact At.here | apply At.there); done) | exact SH.rsO H (by (repeat first | exact At.here | apply At.there); done)) (by omega) | exact Rs.toLH (by first | assumption | exact SH.rsR H (by (repeat first | exact At.here | apply At.there); done) | exact SH.rsO H (by (repeat first | exact At.here | apply At.there); done)) (by omega) (by omega) | exact (Rs.nil : Rs Non _ _ _)) | (simp only [List.all_cons, List.all_nil, Bool.and_true, Bool.and_eq_true, Row.cells, Gr.L, Rep.L, Mem.L, Cm.L, Rq.L, Ent.L, ActP.L]; (repeat' constructor) <;> first | rfl | assumption | exact Rs.oneC (by first | assumption | exact SH.rsR H (by (repeat first | exact At.here | apply At.there); done) | exact SH.rsO H (by (repeat first | exact At.here | apply At.there); done) | exact Rs.toH (by first | assumption | exact SH.rsR H (by (repeat first | exact At.here | apply At.there); done) | exact SH.rsO H (by (repeat first | exact At.here | apply At.there); done)) (by omega) | exact Rs.toL (by first | assumption | exact SH.rsR H (by (repeat first | exact At.here | apply At.there); done) | exact SH.rsO H (by (repeat first | exact At.here | apply At.there); done)) (by omega) | exact Rs.toLH (by first | assumption | exact SH.rsR H (by (repeat first | exact At.here | apply At.there); done) | exact SH.rsO H (by (repeat first | exact At.here | apply At.there); done)) (by omega) (by omega) | exact (Rs.nil : Rs Non _ _ _)))) (by (repeat first | exact At.here | apply At.there); done) (by assumption) (by rfl) (by rfl) (by rfl) (by first | rfl | assumption | exact Rs.oneC (by first | assumption | exact SH.rsR H (by (repeat first | exact At.here | apply At.there); done) | exact SH.rsO H (by (repeat first | exact At.here | apply At.there); done) | exact Rs.toH (by first | assumption | exact SH.rsR H (by (repeat first | exact At.here | apply At.there); done) | exact SH.rsO H (by (repeat first | exact At.here | apply At.there); done)) (by omega) | exact Rs.toL (by first | assumption | exact SH.rsR H (by (repeat first | exact At.here | apply At.there); done) | exact SH.rsO H (by (repeat first | exact At.here | apply At.there); done)) (by omega) | exact Rs.toLH (by first | assumption | exact SH.rsR H (by (repeat first | exact At.here | apply At.there); done) | exact SH.rsO H (by (repeat first | exact At.here | apply At.there); done)) (by omega) (by omega) | exact (Rs.nil : Rs Non _ _ _)) | (simp only [List.all_cons, List.all_nil, Bool.and_true, Bool.and_eq_true, Row.cells, Gr.L, Rep.L, Mem.L, Cm.L, Rq.L, Ent.L, ActP.L]; (repeat' constructor) <;> first | rfl | assumption | exact Rs.oneC (by first | assumption | exact SH.rsR H (by (repeat first | exact At.here | apply At.there); done) | exact SH.rsO H (by (repeat first | exact At.here | apply At.there); done) | exact Rs.toH (by first | assumption | exact SH.rsR H (by (repeat first | exact At.here | apply At.there); done) | exact SH.rsO H (by (repeat first | exact At.here | apply At.there); done)) (by omega) | exact Rs.toL (by first | assumption | exact SH.rsR H (by (repeat first | exact At.here | apply At.there); done) | exact SH.rsO H (by (repeat first | exact At.here | apply At.there); done)) (by omega) | exact Rs.toLH (by first | assumption | exact SH.rsR H (by (repeat first | exact At.here | apply At.there); done) | exact SH.rsO H (by (repeat first | exact At.here | apply At.there); done)) (by omega) (by omega) | exact (Rs.nil : Rs Non _ _ _)))) ?_
        clear H
        intro w9_4 H
        try dsimp only [replC, List.cons_append, List.nil_append, List.append_nil, agg, cellsL, Value.cells, List.toList_toArray, List.set_cons_zero, List.set_cons_succ, spliceL, List.take_succ_cons, List.take_zero, List.drop_succ_cons, List.drop_zero, List.length_cons, List.length_nil, Nat.reduceAdd, Row.cells, Gr.L, Rep.L, Mem.L, Cm.L, Rq.L, Ent.L, ActP.L] at H
        refine LW.nil ?_
        refine thenE_norm ?_
        refine cut (K := K13) [0, 1, 5, 6] (fun σ => ?_)
        simp only [setL, keepE, upd_get, ev, Nat.reduceEqDiff, ↓reduceIte]
        refine h13 _ _ ?_; clear h13; try clear K13
        refine CW.region ?_
        refine r_move rfl ?_
        refine r_add rfl rfl rfl (wr_i64 (by omega) (by omega)) ?_
        refine r_assign rfl ?_
        refine LW.nil ?_
        refine blockE_norm ?_
        refine thenE_norm (h10 _ _ ?_); clear h10; try clear K10
        refine CW.region ?_
        refine r_move rfl ?_
        refine r_add rfl rfl rfl (wr_i64 (by omega) (by omega)) ?_
        refine r_assign rfl ?_
        refine LW.nil ?_
        refine thenE_norm ⟨rfl, ?_⟩
        first
          | exact ⟨_, by omega, i + 1, j + 1, ys.set i x, rfl, by omega, by omega, rfl, by rw [List.length_set]; exact hyl, by rw [V.take_set (by omega), V.take_snoc hxx, List.filter_append, htk]; simp [hc3], by rw [V.drop_set (by omega)]; exact hdr2, (SH.sel H [0] (by decide) (by rfl))⟩
          | exact ⟨_, by omega, i, j + 1, ys, rfl, by omega, by omega, rfl, hyl, by rw [V.take_snoc hxx, List.filter_append, htk]; simp [hc3], hdr2, (SH.sel H [0] (by decide) (by rfl))⟩
      · try simp only [decide_eq_true_eq, decide_eq_false_iff_not, Bool.and_eq_true, Bool.or_eq_true, Bool.and_eq_false_iff, Bool.or_eq_false_iff, Bool.not_eq_true', Bool.not_eq_false', beq_iff_eq, bne_iff_ne, ne_eq, Decidable.not_not] at hc3
        refine CW.skip ?_
        refine blockE_norm ?_
        refine thenE_norm (h10 _ _ ?_); clear h10; try clear K10
        refine CW.region ?_
        refine r_move rfl ?_
        refine r_add rfl rfl rfl (wr_i64 (by omega) (by omega)) ?_
        refine r_assign rfl ?_
        refine LW.nil ?_
        refine thenE_norm ⟨rfl, ?_⟩
        first
          | exact ⟨_, by omega, i + 1, j + 1, ys.set i x, rfl, by omega, by omega, rfl, by rw [List.length_set]; exact hyl, by rw [V.take_set (by omega), V.take_snoc hxx, List.filter_append, htk]; simp [hc3], by rw [V.drop_set (by omega)]; exact hdr2, (SH.sel H [0] (by decide) (by rfl))⟩
          | exact ⟨_, by omega, i, j + 1, ys, rfl, by omega, by omega, rfl, hyl, by rw [V.take_snoc hxx, List.filter_append, htk]; simp [hc3], hdr2, (SH.sel H [0] (by decide) (by rfl))⟩
    · try simp only [decide_eq_true_eq, decide_eq_false_iff_not, Bool.and_eq_true, Bool.or_eq_true, Bool.and_eq_false_iff, Bool.or_eq_false_iff, Bool.not_eq_true', Bool.not_eq_false', beq_iff_eq, bne_iff_ne, ne_eq, Decidable.not_not] at hc2
      refine CW.exit (thenE_exit (thenE_exit (blockE_hit ?_)))
      refine thenE_norm (h6 _ _ ?_); clear h6; try clear K6
      refine CW.seq (fun K14 h14 => ?_)
      obtain rfl : j = xs.length := by omega
      rw [List.take_length] at htk
      have hones := (SH.ow H At.here).2
      obtain ⟨b, cap, cur, rfl, rfl, hnc, hcm, hcl, hct, -, H⟩ := SH.toB H At.here (by rintro rfl; simp at hyl; omega)
      dsimp only [replC, List.append_nil, List.nil_append] at H
      have hc63 : cap ≤ 9223372036854775807 := by simpa [maxLen] using hcm
      have hs1 : i * Row.sz Ent + (xs.length - i) * Row.sz Ent = xs.length * Row.sz Ent := by rw [← Nat.add_mul]; congr 1; omega
      have hs2 : xs.length * Row.sz Ent ≤ cap * Row.sz Ent := Nat.mul_le_mul_right _ (by omega)
      refine CW.region ?_
      refine r_move rfl ?_
      refine r_move rfl ?_
      refine r_sliceLp rfl Try.underlying102 Try.sizeOf108 rfl rfl (by omega) (by omega) (by omega) ?_
      refine s_clearB H Try.underlying102 Try.zeroValue108 rfl rfl rfl rfl (by omega) (by (repeat first | exact At.here | apply At.there); done) (by show i * Row.sz Ent + (ys.length - i) * Row.sz Ent ≤ _; rw [hyl, hcl]; omega) ?_
      clear H
      intro w6 zs hzs H
      try dsimp only [replC, List.append_nil, List.nil_append] at H
      refine LW.nil ?_
      refine thenE_norm ?_
      refine cut (K := K14) [0, 5] (fun σ => ?_)
      simp only [setL, keepE, upd_get, ev, Nat.reduceEqDiff, ↓reduceIte]
      refine h14 _ _ ?_; clear h14; try clear K14
      refine CW.seq (fun K15 h15 => ?_)
      refine CW.region ?_
      refine r_move rfl ?_
      refine r_move rfl ?_
      refine r_sliceHc rfl Try.underlying102 Try.sizeOf108 rfl rfl (by omega) (by omega) ?_
      refine r_assign rfl ?_
      refine LW.nil ?_
      refine thenE_norm (h15 _ _ ?_); clear h15; try clear K15
      refine CW.ret (ret1 Try.results93 (by simp only [upd_get, ev, Nat.reduceEqDiff, ↓reduceIte]; rfl) ?_)
      have hzl : zs.length = (xs.length - i) * Row.sz Ent := by rw [hzs]; show (ys.length - i) * Row.sz Ent = _; rw [hyl]
      have hout := SH.ofB (cap := cap) H At.here (xs.filter fun x => !p x) i (by rw [← htk, List.length_take]; omega) (by rw [← htk]; exact hones.take i) (by
        erw [splice_len (by show i * Row.sz Ent + zs.length ≤ _; rw [hzl, hcl]; omega)]
        exact hcl) (by omega) hcm (by
        refine (splice_front (by rw [hcl]; omega)).trans ?_
        rw [← htk, flat_take, ← hct, List.take_take, Nat.min_eq_left (by rw [hyl]; omega)])
      exact ⟨_, rfl, hout⟩
def oldE (ms : List Mem) (e : Ent) : Bool := decide (freshM ms e.req.client e.req.seq ≠ 1)
def backE (done : Int) (e : Ent) : Ent := if e.marked = true ∧ e.slot ≤ done then { e with marked := false, slot := 0 } else e
theorem backE_came (done : Int) (e : Ent) : (backE done e).came = e.came := by unfold backE; split <;> rfl
theorem filter_good {es : List Ent} {f : Ent → Bool} (h : goodQ es) : goodQ (es.filter f) := ⟨Nat.le_trans (List.length_filter_le _ _) h.1, fun e he => h.2 e (List.mem_filter.1 he).1⟩
/-- A queue behind a trim. -/
def trimM (es : List Ent) (ms : List Mem) (done : Int) : List Ent := (es.filter fun e => !oldE ms e).map (backE done)
theorem trim1_c {F : Nat → Prop} {b : Nat} {E : TypeId} {v : Value} {ms : List Mem} (e : Ent) (w : World) (hb : Blk w b E [v]) (hv : Rs F w v ms) (hn : ms.length ≤ 1000000) (hup : UpK Mem.client ms) :
    Calls Try.prog 94 #[agg e, .pointer (some ⟨b, 0, none⟩)] w fun u w' => u = .returned (.bool (oldE ms e)) ∧ Ext0 w w' := by
  have H := (SH.start (U := Non) (G := Any) w).arg hv
  refine calls_of_CW Try.func94 rfl Try.ntmps94 (Nat.le_of_ble_eq_true rfl) ?_
  simp only [argE, argFrom, Nat.reduceAdd]
  refine CW.seq (fun K1 h1 => ?_)
  refine CW.region ?_
  refine s_box H rfl (by simp only [upd_get, ev, Nat.reduceEqDiff, ↓reduceIte] <;> rfl) rfl ?_
  clear H
  intro b0_0 w0_0 H
  try dsimp only [replC, List.cons_append, List.nil_append, List.append_nil, agg, cellsL, Value.cells, List.toList_toArray, List.set_cons_zero, List.set_cons_succ, spliceL, List.take_succ_cons, List.take_zero, List.drop_succ_cons, List.drop_zero, List.length_cons, List.length_nil, Nat.reduceAdd, Row.cells, Gr.L, Rep.L, Mem.L, Cm.L, Rq.L, Ent.L, ActP.L] at H
  refine r_assign rfl ?_
  refine LW.nil ?_
  refine thenE_norm (h1 _ _ ?_); clear h1; try clear K1
  refine CW.seq (fun K2 h2 => ?_)
  refine CW.region ?_
  refine r_load rfl Try.isAgg81 rfl ((hb.up0 (SH.ext H)).cell (o := 0) rfl) ?_
  refine r_fieldAddrO rfl Try.underlying108 rfl Try.sizeOf29 (by decide) (show _ = 0 from rfl) rfl ?_
  refine r_fieldAddrO rfl Try.underlying29 rfl Try.sizeOf3 (by decide) (show _ = 0 from rfl) rfl ?_
  refine r_load rfl Try.isAgg3 rfl (by first | exact SH.cellB H (by (repeat first | exact At.here | apply At.there); done) (by rfl) | assumption) ?_
  refine r_fieldAddrO rfl Try.underlying108 rfl Try.sizeOf29 (by decide) (show _ = 0 from rfl) rfl ?_
  refine r_fieldAddrO rfl Try.underlying29 rfl Try.sizeOf3 (by decide) (show _ = 1 from rfl) rfl ?_
  refine r_load rfl Try.isAgg3 rfl (by first | exact SH.cellB H (by (repeat first | exact At.here | apply At.there); done) (by rfl) | assumption) ?_
  refine r_call rfl Try.call66 (by simp only [List.map_cons, List.map_nil, List.map_toArray, List.toList_toArray, upd_get, ev, Nat.reduceEqDiff, ↓reduceIte] <;> rfl) (FreshM_c _ _ _ (by first | assumption | exact SH.rsR H (by (repeat first | exact At.here | apply At.there); done) | exact SH.rsO H (by (repeat first | exact At.here | apply At.there); done) | exact (Rs.nil : Rs Non _ _ _)) (by first | omega | (simp only [List.length_append, List.length_cons, List.length_nil]; omega) | (simp; omega)) hup) ?_
  rintro _ w1_7 ⟨rfl, X⟩
  refine ⟨_, rfl, ?_⟩
  replace H := SH.same H X
  clear X
  refine r_neq rfl rfl rfl ?_
  refine r_assign rfl ?_
  refine LW.nil ?_
  refine thenE_norm ?_
  refine cut (K := K2) [3] (fun σ => ?_)
  simp only [setL, keepE, upd_get, ev, Nat.reduceEqDiff, ↓reduceIte]
  refine h2 _ _ ?_; clear h2; try clear K2
  refine CW.ret (ret1 Try.results94 (by simp only [upd_get, ev, Nat.reduceEqDiff, ↓reduceIte]; rfl) ?_)
  exact ⟨rfl, H.ext⟩
theorem TrimZ_c {v : Value} (done : Int) (w : World) (ho : oneC v = true) : Calls Try.prog 54 #[.pointer none, v, .int .i64 done] w fun e w' => e = .returned (.tuple #[]) ∧ Ext0 w w' := by
  have H := SH.start (U := Non) (G := Any) w
  refine calls_of_CW Try.func54 rfl Try.ntmps54 (Nat.le_of_ble_eq_true rfl) ?_
  simp only [argE, argFrom, Nat.reduceAdd]
  refine CW.seq (fun K1 h1 => ?_)
  refine CW.region ?_
  refine s_box H rfl (by simp only [upd_get, ev, Nat.reduceEqDiff, ↓reduceIte] <;> rfl) rfl ?_
  clear H
  intro b0_0 w0_0 H
  try dsimp only [replC, List.cons_append, List.nil_append, List.append_nil, agg, cellsL, Value.cells, List.toList_toArray, List.set_cons_zero, List.set_cons_succ, spliceL, List.take_succ_cons, List.take_zero, List.drop_succ_cons, List.drop_zero, List.length_cons, List.length_nil, Nat.reduceAdd, Row.cells, Gr.L, Rep.L, Mem.L, Cm.L, Rq.L, Ent.L, ActP.L] at H
  refine LW.nil ?_
  refine thenE_norm (h1 _ _ ?_); clear h1; try clear K1
  refine CW.seq (fun K2 h2 => ?_)
  refine CW.seq (fun K3 h3 => ?_)
  refine CW.region ?_
  refine r_move rfl ?_
  refine r_eqlP rfl Try.underlying22 rfl rfl ?_
  refine LW.nil ?_
  refine thenE_norm (h3 _ _ ?_); clear h3; try clear K3
  refine CW.condT rfl (by first | rfl | (simp only [decide_eq_true_eq, decide_eq_false_iff_not, Bool.and_eq_true, Bool.or_eq_true, Bool.and_eq_false_iff, Bool.or_eq_false_iff, Bool.not_eq_true', Bool.not_eq_false', beq_iff_eq, bne_iff_ne]; omega) | simp_all) ?_
  refine CW.ret (thenE_ret (ret0 Try.results54 ?_))
  exact ⟨rfl, H.ext⟩
set_option maxHeartbeats 4000000 in
theorem Trim_c {F : Nat → Prop} {p : Nat} {es : List Ent} {FN : Nat → Prop} {mv : Value} {ms : List Mem} (done : Int) (w : World) (hN : PoolA p es FN w) (hr : Rs F w mv ms) (hd : ∀ b, F b → ¬ FN b) (hn : ms.length ≤ 1000000) (hup : UpK Mem.client ms) :
    Calls Try.prog 54 #[.pointer (some ⟨p, 0, none⟩), mv, .int .i64 done] w fun e w' => ∃ FN', e = .returned (.tuple #[]) ∧ SH FN Non w w' [.P FN' (PoolA p (trimM es ms done) FN')] := by
  obtain ⟨hg, v, gp, hA⟩ := hN
  have H := SH.argU (SH.obj (G := Any) hA) hr hd
  have h6 := hg.1
  have hg2 := filter_good (f := fun e => !oldE ms e) hg
  have hfl := hg2.1
  refine calls_of_CW Try.func54 rfl Try.ntmps54 (Nat.le_of_ble_eq_true rfl) ?_
  simp only [argE, argFrom, Nat.reduceAdd]
  refine CW.seq (fun K1 h1 => ?_)
  refine CW.region ?_
  refine s_box H rfl (by simp only [upd_get, ev, Nat.reduceEqDiff, ↓reduceIte] <;> rfl) rfl ?_
  clear H
  intro b0_0 w0_0 H
  try dsimp only [replC, List.cons_append, List.nil_append, List.append_nil, agg, cellsL, Value.cells, List.toList_toArray, List.set_cons_zero, List.set_cons_succ, spliceL, List.take_succ_cons, List.take_zero, List.drop_succ_cons, List.drop_zero, List.length_cons, List.length_nil, Nat.reduceAdd, Row.cells, Gr.L, Rep.L, Mem.L, Cm.L, Rq.L, Ent.L, ActP.L] at H
  obtain ⟨aog, capg, hgv, -, -⟩ := hr.shape
  replace H : SH FN Any w w0_0 [.B p 104 [v], .O 108 v es gp, .R (fun b => F b ∧ b < w.heap.size) mv ms, .B b0_0 81 [mv]] := by subst hgv; exact H
  refine LW.nil ?_
  refine thenE_norm (h1 _ _ ?_); clear h1; try clear K1
  refine CW.seq (fun K2 h2 => ?_)
  refine CW.seq (fun K3 h3 => ?_)
  refine CW.region ?_
  refine r_move rfl ?_
  refine r_eqlP rfl Try.underlying22 rfl rfl ?_
  refine LW.nil ?_
  refine thenE_norm (h3 _ _ ?_); clear h3; try clear K3
  refine CW.condF rfl (by first | rfl | (simp only [decide_eq_true_eq, decide_eq_false_iff_not, Bool.and_eq_true, Bool.or_eq_true, Bool.and_eq_false_iff, Bool.or_eq_false_iff, Bool.not_eq_true', Bool.not_eq_false', beq_iff_eq, bne_iff_ne]; omega) | simp_all) ?_
  refine CW.skip ?_
  refine thenE_norm (h2 _ _ ?_); clear h2; try clear K2
  refine CW.seq (fun K4 h4 => ?_)
  have hap : ∀ b, gp = some b → b ≠ b0_0 ∧ ¬ (F b ∧ b < w.heap.size) := by
    intro b hb
    have a1 := SH.val H |>.apart (i := 1) (j := 3) rfl rfl (by decide) (.inl trivial) b
    have a2 := SH.val H |>.apart (i := 1) (j := 2) rfl rfl (by decide) (.inl trivial) b
    exact ⟨fun e => a1 hb e, fun e => a2 hb e⟩
  have hBB := H.blk (i := 3) rfl
  have hGG := H.rsR (i := 2) rfl
  refine CW.region ?_
  refine r_move rfl ?_
  refine r_move rfl ?_
  refine r_nilCheck rfl rfl ?_
  refine r_fieldAddrO rfl Try.underlying104 rfl Try.sizeOf102 (by decide) (show _ = 0 from rfl) rfl ?_
  refine r_load rfl Try.isAgg102 rfl (by first | exact SH.cellB H (by (repeat first | exact At.here | apply At.there); done) (by rfl) | exact SH.cellI H (by (repeat first | exact At.here | apply At.there); done) (by rfl) | assumption) ?_
  refine r_makeFunc rfl (by simp only [List.map_cons, List.map_nil, List.map_toArray, List.toList_toArray, upd_get, ev, Nat.reduceEqDiff, ↓reduceIte] <;> rfl) (by simp only [List.map_cons, List.map_nil, List.map_toArray, List.toList_toArray, upd_get, ev, Nat.reduceEqDiff, ↓reduceIte] <;> rfl) ?_
  refine r_call rfl Try.call93 (by simp only [List.map_cons, List.map_nil, List.map_toArray, List.toList_toArray, upd_get, ev, Nat.reduceEqDiff, ↓reduceIte] <;> rfl) (DelfE_c (S := fun u => Blk u b0_0 81 [mv] ∧ Rs (fun b => F b ∧ b < w.heap.size) u mv ms) (p := oldE ms) (D := fun _ => True) _ (SH.ow H (i := 1) rfl) ⟨_, [], [.pointer (some ⟨b0_0, 0, none⟩)], rfl, Try.call94, fun x u _ hs => trim1_c x u hs.1 hs.2 hn hup⟩ (fun _ _ => trivial) (fun w' e => ⟨hBB.up e (fun h => (hap _ h).1 rfl), hGG.up e (fun b hb h => (hap b h).2 hb)⟩)) ?_
  rintro _ w2_6 ⟨v2_6, rfl, K⟩
  refine ⟨_, rfl, ?_⟩
  replace H := SH.updO H (i := 1) rfl K
  clear K
  try dsimp only [replC, List.cons_append, List.nil_append, List.append_nil] at H
  refine r_nilCheck rfl rfl ?_
  refine r_fieldAddrO rfl Try.underlying104 rfl Try.sizeOf102 (by decide) (show _ = 0 from rfl) rfl ?_
  refine s_store H Try.sizeOf102 rfl (by simp only [upd_get, ev, Nat.reduceEqDiff, ↓reduceIte] <;> rfl) (by first | rfl | assumption | exact Rs.oneC (by first | assumption | exact SH.rsR H (by (repeat first | exact At.here | apply At.there); done) | exact SH.rsO H (by (repeat first | exact At.here | apply At.there); done) | exact (Rs.nil : Rs Non _ _ _)) | (simp only [List.all_cons, List.all_nil, Bool.and_true, Bool.and_eq_true, Row.cells, Gr.L, Rep.L, Mem.L, Cm.L, Rq.L, Ent.L, ActP.L]; (repeat' constructor) <;> first | rfl | assumption | exact Rs.oneC (by first | assumption | exact SH.rsR H (by (repeat first | exact At.here | apply At.there); done) | exact SH.rsO H (by (repeat first | exact At.here | apply At.there); done) | exact (Rs.nil : Rs Non _ _ _)))) (by (repeat first | exact At.here | apply At.there); done) (by first | (simp; done) | decide | omega) ?_
  clear H
  intro w2_9 H
  try dsimp only [replC, List.cons_append, List.nil_append, List.append_nil, agg, cellsL, Value.cells, List.toList_toArray, List.set_cons_zero, List.set_cons_succ, spliceL, List.take_succ_cons, List.take_zero, List.drop_succ_cons, List.drop_zero, List.length_cons, List.length_nil, Nat.reduceAdd, Row.cells, Gr.L, Rep.L, Mem.L, Cm.L, Rq.L, Ent.L, ActP.L] at H
  refine LW.nil ?_
  refine thenE_norm ?_
  refine cut (K := K4) [0, 2] (fun σ => ?_)
  simp only [setL, keepE, upd_get, ev, Nat.reduceEqDiff, ↓reduceIte]
  refine h4 _ _ ?_; clear h4; try clear K4
  refine CW.seq (fun K5 h5 => ?_)
  generalize hE : es.filter (fun e => !oldE ms e) = fs at *
  refine CW.region ?_
  refine r_move rfl ?_
  refine r_nilCheck rfl rfl ?_
  refine r_fieldAddrO rfl Try.underlying104 rfl Try.sizeOf102 (by decide) (show _ = 0 from rfl) rfl ?_
  refine r_load rfl Try.isAgg102 rfl (by first | exact SH.cellB H (by (repeat first | exact At.here | apply At.there); done) (by rfl) | exact SH.cellI H (by (repeat first | exact At.here | apply At.there); done) (by rfl) | assumption) ?_
  first
    | refine r_lenV rfl Try.underlying102 (by simp only [upd_get, ev, Nat.reduceEqDiff, ↓reduceIte] <;> rfl) (by first | assumption | exact SH.rsR H (by (repeat first | exact At.here | apply At.there); done) | exact SH.rsO H (by (repeat first | exact At.here | apply At.there); done) | exact (Rs.nil : Rs Non _ _ _)) ?_
    | refine r_len rfl Try.underlying102 rfl ?_
  refine r_move rfl ?_
  refine LW.nil ?_
  refine thenE_norm (h5 _ _ ?_); clear h5; try clear K5
  refine CW.block ?_
  refine CW.loopR [0, 2, 23] [24] (fun m vs w' => ∃ (i : Nat), vs = [.int .i64 i] ∧ i ≤ fs.length ∧ m = fs.length - i ∧ SH FN Any w w' [.B p 104 [v2_6], .O 108 v2_6 ((fs.take i).map (backE done) ++ fs.drop i) gp]) (fs.length) ?_ ?_
  · exact ⟨0, rfl, by omega, by omega, (SH.sel H [0, 1] (by decide) (by rfl))⟩
  try clear H
  rintro n1 vs1 wL1 σ ⟨i, rfl, hi, rfl, H⟩
  simp only [setL, keepE, upd_get, ev, Nat.reduceEqDiff, ↓reduceIte]
  refine CW.seq (fun K6 h6 => ?_)
  refine CW.region ?_
  refine r_lss rfl rfl rfl ?_
  refine LW.nil ?_
  refine thenE_norm (h6 _ _ ?_); clear h6; try clear K6
  refine CW.seq (fun K7 h7 => ?_)
  refine CW.cond rfl (fun hc2 => ?_) (fun hc2 => ?_)
  · try simp only [decide_eq_true_eq, decide_eq_false_iff_not, Bool.and_eq_true, Bool.or_eq_true, Bool.and_eq_false_iff, Bool.or_eq_false_iff, Bool.not_eq_true', Bool.not_eq_false', beq_iff_eq, bne_iff_ne, ne_eq, Decidable.not_not] at hc2
    refine CW.skip ?_
    refine thenE_norm (h7 _ _ ?_); clear h7; try clear K7
    refine CW.seq (fun K8 h8 => ?_)
    refine CW.block ?_
    refine CW.seq (fun K9 h9 => ?_)
    obtain ⟨x, hx⟩ := get_of_lt (show i < fs.length by omega)
    obtain ⟨hx2, hcs⟩ := map_step (backE done) hx
    have hms := map_same (f := backE done) hx
    have hyl : ((fs.take i).map (backE done) ++ fs.drop i).length = fs.length := by simp; omega
    generalize hY : (fs.take i).map (backE done) ++ fs.drop i = ys at *
    refine CW.region ?_
    refine r_move rfl ?_
    refine r_assign rfl ?_
    refine LW.nil ?_
    refine thenE_norm (h9 _ _ ?_); clear h9; try clear K9
    refine CW.seq (fun K10 h10 => ?_)
    refine CW.region ?_
    refine r_move rfl ?_
    refine r_nilCheck rfl rfl ?_
    refine r_fieldAddrO rfl Try.underlying104 rfl Try.sizeOf102 (by decide) (show _ = 0 from rfl) rfl ?_
    refine r_load rfl Try.isAgg102 rfl (by first | exact SH.cellB H (by (repeat first | exact At.here | apply At.there); done) (by rfl) | exact SH.cellI H (by (repeat first | exact At.here | apply At.there); done) (by rfl) | assumption) ?_
    refine r_move rfl ?_
    refine r_indexAddrV rfl Try.underlying102 (by simp only [upd_get, ev, Nat.reduceEqDiff, ↓reduceIte] <;> rfl) rfl (by first | assumption | exact SH.rsR H (by (repeat first | exact At.here | apply At.there); done) | exact SH.rsO H (by (repeat first | exact At.here | apply At.there); done) | exact (Rs.nil : Rs Non _ _ _)) (by exact Try.sizeOf108) (by omega) (by omega) ?_
    refine r_assign rfl ?_
    refine LW.nil ?_
    refine thenE_norm ?_
    refine cut (K := K10) [0, 2, 7, 23, 24] (fun σ => ?_)
    simp only [setL, keepE, upd_get, ev, Nat.reduceEqDiff, ↓reduceIte]
    refine h10 _ _ ?_; clear h10; try clear K10
    refine CW.seq (fun K11 h11 => ?_)
    refine CW.region ?_
    refine r_move rfl ?_
    refine r_nilCheck rfl rfl ?_
    refine r_fieldAddrO rfl Try.underlying108 rfl Try.sizeOf4 (by decide) (show _ + 6 = _ from rfl) rfl ?_
    refine r_load rfl Try.isAgg4 rfl (by first | exact Rs.cell (by first | assumption | exact SH.rsR H (by (repeat first | exact At.here | apply At.there); done) | exact SH.rsO H (by (repeat first | exact At.here | apply At.there); done) | exact (Rs.nil : Rs Non _ _ _)) (by assumption) (by rfl) | exact Rs.cell0 (by first | assumption | exact SH.rsR H (by (repeat first | exact At.here | apply At.there); done) | exact SH.rsO H (by (repeat first | exact At.here | apply At.there); done) | exact (Rs.nil : Rs Non _ _ _)) (by assumption) (by rfl) | assumption) ?_
    refine r_move rfl ?_
    refine' LW.grpAnd (n := 7) (ts := [0, 2, 7, 23, 24]) (d := 44) (tj := 37) rfl (fun hg7_5 => ?_) (fun hg7_5 => ?_) (fun σ => ?_)
    rotate_left
    · simp only [List.take_succ_cons, List.take_zero]
      have hg7_5P := hg7_5
      try simp only [decide_eq_true_eq, decide_eq_false_iff_not, Bool.and_eq_true, Bool.or_eq_true, Bool.and_eq_false_iff, Bool.or_eq_false_iff, Bool.not_eq_true', Bool.not_eq_false', beq_iff_eq, bne_iff_ne] at hg7_5P
      refine LW.want rfl rfl hg7_5 ?_
      refine r_move rfl ?_
      refine LW.want rfl rfl hg7_5 ?_
      refine r_nilCheck rfl rfl ?_
      refine LW.want rfl rfl hg7_5 ?_
      refine r_fieldAddrO rfl Try.underlying108 rfl Try.sizeOf3 (by decide) (show _ + 7 = _ from rfl) rfl ?_
      refine LW.want rfl rfl hg7_5 ?_
      refine r_load rfl Try.isAgg3 rfl (by first | exact Rs.cell (by first | assumption | exact SH.rsR H (by (repeat first | exact At.here | apply At.there); done) | exact SH.rsO H (by (repeat first | exact At.here | apply At.there); done) | exact (Rs.nil : Rs Non _ _ _)) (by assumption) (by rfl) | exact Rs.cell0 (by first | assumption | exact SH.rsR H (by (repeat first | exact At.here | apply At.there); done) | exact SH.rsO H (by (repeat first | exact At.here | apply At.there); done) | exact (Rs.nil : Rs Non _ _ _)) (by assumption) (by rfl) | assumption) ?_
      refine LW.want rfl rfl hg7_5 ?_
      refine r_move rfl ?_
      refine LW.want rfl rfl hg7_5 ?_
      refine r_leq rfl rfl rfl ?_
      refine r_pickT rfl rfl hg7_5 ?_
      refine LW.nil (thenE_norm ⟨rfl, rfl, rfl⟩)
    · simp only [List.take_succ_cons, List.take_zero]
      refine LW.skip rfl (fun _ e => by cases e; decide) rfl hg7_5 ?_
      refine LW.skip rfl (fun _ e => by cases e; decide) rfl hg7_5 ?_
      refine LW.skip rfl (fun _ e => by cases e; decide) rfl hg7_5 ?_
      refine LW.skip rfl (fun _ e => by cases e; decide) rfl hg7_5 ?_
      refine LW.skip rfl (fun _ e => by cases e; decide) rfl hg7_5 ?_
      refine LW.skip rfl (fun _ e => by cases e; decide) rfl hg7_5 ?_
      refine r_pickF rfl rfl hg7_5 ?_
      refine LW.nil (thenE_norm ⟨rfl, rfl, rfl⟩)
    simp only [setL, keepE, upd_get, ev, Nat.reduceEqDiff, ↓reduceIte]; simp only [List.drop_succ_cons, List.drop_zero]
    refine LW.nil ?_
    refine thenE_norm (h11 _ _ ?_); clear h11; try clear K11
    refine CW.cond rfl (fun hc3 => ?_) (fun hc3 => ?_)
    · try simp only [decide_eq_true_eq, decide_eq_false_iff_not, Bool.and_eq_true, Bool.or_eq_true, Bool.and_eq_false_iff, Bool.or_eq_false_iff, Bool.not_eq_true', Bool.not_eq_false', beq_iff_eq, bne_iff_ne, ne_eq, Decidable.not_not] at hc3
      refine CW.region ?_
      refine r_move rfl ?_
      refine r_move rfl ?_
      refine r_nilCheck rfl rfl ?_
      refine r_fieldAddrO rfl Try.underlying108 rfl Try.sizeOf4 (by decide) (show _ + 6 = _ from rfl) rfl ?_
      refine s_storeR (o := 6) (x1 := { x with marked := false }) H Try.sizeOf4 rfl (by simp only [upd_get, ev, Nat.reduceEqDiff, ↓reduceIte] <;> rfl) (by first | rfl | assumption | exact Rs.oneC (by first | assumption | exact SH.rsR H (by (repeat first | exact At.here | apply At.there); done) | exact SH.rsO H (by (repeat first | exact At.here | apply At.there); done) | exact (Rs.nil : Rs Non _ _ _)) | (simp only [List.all_cons, List.all_nil, Bool.and_true, Bool.and_eq_true, Row.cells, Gr.L, Rep.L, Mem.L, Cm.L, Rq.L, Ent.L, ActP.L]; (repeat' constructor) <;> first | rfl | assumption | exact Rs.oneC (by first | assumption | exact SH.rsR H (by (repeat first | exact At.here | apply At.there); done) | exact SH.rsO H (by (repeat first | exact At.here | apply At.there); done) | exact (Rs.nil : Rs Non _ _ _)))) (by (repeat first | exact At.here | apply At.there); done) (by assumption) (by rfl) (by rfl) (by rfl) (by first | rfl | assumption | exact Rs.oneC (by first | assumption | exact SH.rsR H (by (repeat first | exact At.here | apply At.there); done) | exact SH.rsO H (by (repeat first | exact At.here | apply At.there); done) | exact (Rs.nil : Rs Non _ _ _)) | (simp only [List.all_cons, List.all_nil, Bool.and_true, Bool.and_eq_true, Row.cells, Gr.L, Rep.L, Mem.L, Cm.L, Rq.L, Ent.L, ActP.L]; (repeat' constructor) <;> first | rfl | assumption | exact Rs.oneC (by first | assumption | exact SH.rsR H (by (repeat first | exact At.here | apply At.there); done) | exact SH.rsO H (by (repeat first | exact At.here | apply At.there); done) | exact (Rs.nil : Rs Non _ _ _)))) ?_
      clear H
      intro w8_4 H
      try dsimp only [replC, List.cons_append, List.nil_append, List.append_nil, agg, cellsL, Value.cells, List.toList_toArray, List.set_cons_zero, List.set_cons_succ, spliceL, List.take_succ_cons, List.take_zero, List.drop_succ_cons, List.drop_zero, List.length_cons, List.length_nil, Nat.reduceAdd, Row.cells, Gr.L, Rep.L, Mem.L, Cm.L, Rq.L, Ent.L, ActP.L] at H
      refine r_nilCheck rfl rfl ?_
      refine r_fieldAddrO rfl Try.underlying108 rfl Try.sizeOf3 (by decide) (show _ + 7 = _ from rfl) rfl ?_
      refine s_storeR (o := 7) (x1 := { x with marked := false, slot := 0 }) H Try.sizeOf3 rfl (by simp only [upd_get, ev, Nat.reduceEqDiff, ↓reduceIte] <;> rfl) (by first | rfl | assumption | exact Rs.oneC (by first | assumption | exact SH.rsR H (by (repeat first | exact At.here | apply At.there); done) | exact SH.rsO H (by (repeat first | exact At.here | apply At.there); done) | exact (Rs.nil : Rs Non _ _ _)) | (simp only [List.all_cons, List.all_nil, Bool.and_true, Bool.and_eq_true, Row.cells, Gr.L, Rep.L, Mem.L, Cm.L, Rq.L, Ent.L, ActP.L]; (repeat' constructor) <;> first | rfl | assumption | exact Rs.oneC (by first | assumption | exact SH.rsR H (by (repeat first | exact At.here | apply At.there); done) | exact SH.rsO H (by (repeat first | exact At.here | apply At.there); done) | exact (Rs.nil : Rs Non _ _ _)))) (by (repeat first | exact At.here | apply At.there); done) (by first | exact List.getElem?_set_self (by omega) | (simp; omega)) (by rfl) (by rfl) (by rfl) (by first | rfl | assumption | exact Rs.oneC (by first | assumption | exact SH.rsR H (by (repeat first | exact At.here | apply At.there); done) | exact SH.rsO H (by (repeat first | exact At.here | apply At.there); done) | exact (Rs.nil : Rs Non _ _ _)) | (simp only [List.all_cons, List.all_nil, Bool.and_true, Bool.and_eq_true, Row.cells, Gr.L, Rep.L, Mem.L, Cm.L, Rq.L, Ent.L, ActP.L]; (repeat' constructor) <;> first | rfl | assumption | exact Rs.oneC (by first | assumption | exact SH.rsR H (by (repeat first | exact At.here | apply At.there); done) | exact SH.rsO H (by (repeat first | exact At.here | apply At.there); done) | exact (Rs.nil : Rs Non _ _ _)))) ?_
      clear H
      intro w8_7 H
      try dsimp only [replC, List.cons_append, List.nil_append, List.append_nil, agg, cellsL, Value.cells, List.toList_toArray, List.set_cons_zero, List.set_cons_succ, spliceL, List.take_succ_cons, List.take_zero, List.drop_succ_cons, List.drop_zero, List.length_cons, List.length_nil, Nat.reduceAdd, Row.cells, Gr.L, Rep.L, Mem.L, Cm.L, Rq.L, Ent.L, ActP.L] at H
      refine LW.nil ?_
      refine blockE_norm ?_
      refine thenE_norm (h8 _ _ ?_); clear h8; try clear K8
      refine CW.region ?_
      refine r_add rfl rfl rfl (wr_i64 (by omega) (by omega)) ?_
      refine r_move rfl ?_
      refine LW.nil ?_
      refine thenE_norm ⟨rfl, ?_⟩
      exact ⟨fs.length - (i + 1), by omega, i + 1, rfl, by omega, rfl, by rw [← hcs, backE, if_pos hc3]; simpa only [List.set_set, Int.toNat_natCast] using H⟩
    · try simp only [decide_eq_true_eq, decide_eq_false_iff_not, Bool.and_eq_true, Bool.or_eq_true, Bool.and_eq_false_iff, Bool.or_eq_false_iff, Bool.not_eq_true', Bool.not_eq_false', beq_iff_eq, bne_iff_ne, ne_eq, Decidable.not_not] at hc3
      refine CW.skip ?_
      refine blockE_norm ?_
      refine thenE_norm (h8 _ _ ?_); clear h8; try clear K8
      refine CW.region ?_
      refine r_add rfl rfl rfl (wr_i64 (by omega) (by omega)) ?_
      refine r_move rfl ?_
      refine LW.nil ?_
      refine thenE_norm ⟨rfl, ?_⟩
      exact ⟨fs.length - (i + 1), by omega, i + 1, rfl, by omega, rfl, by rw [hms (by rw [backE, if_neg (by rintro ⟨h1, h2⟩; rcases hc3 with h | h; rw [h1] at h; cases h; exact h h2)])]; exact H⟩
  · try simp only [decide_eq_true_eq, decide_eq_false_iff_not, Bool.and_eq_true, Bool.or_eq_true, Bool.and_eq_false_iff, Bool.or_eq_false_iff, Bool.not_eq_true', Bool.not_eq_false', beq_iff_eq, bne_iff_ne, ne_eq, Decidable.not_not] at hc2
    refine CW.exit (thenE_exit (thenE_exit (blockE_hit ?_)))
    refine end0 Try.results54 ?_
    obtain rfl : i = fs.length := by omega
    rw [List.take_length, List.drop_length, List.append_nil] at H
    obtain ⟨FN', K⟩ := PoolA.mk (map_good (backE_came done) hg2) (SH.sel H [0, 1] (by decide) (by rfl))
    rw [trimM, hE]
    exact ⟨_, rfl, K⟩
end Go.Proofs.Ytlfbofnfhhddbaa
