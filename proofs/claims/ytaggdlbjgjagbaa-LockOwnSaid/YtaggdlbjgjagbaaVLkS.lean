/-
  Are locks right: what is asked; the example.
-/
import Derived.Test.YtaggdlbjgjagbaaVLkC
import Derived.Test.YtaggdlbjgjagbaaVMin
namespace Go.Proofs.Ytaggdlbjgjagbaa
set_option linter.unusedSimpArgs false
set_option linter.unusedVariables false
set_option maxRecDepth 20000
open Go.V Go.RowKit Go.ChangeShapes Go.WideShapes

theorem highL_t {a b : Int} : highM a b = true ↔ b ≤ a ∧ a ≤ 2305843009213693952 := by simp [highM]
/-- Is a lock as it should be, by itself? -/
def okL (m : Lm) : Bool := decide (nameM m.name.data.toList = true ∧ 0 ≤ m.holder ∧ m.holder < 8 ∧ 1 ≤ m.token ∧ m.token ≤ 2305843009213693952) && rightM m.line && !decide (m.holder ∈ m.line)
def sameTok (t : Int) (o : Lm) : Bool := decide (o.token = t)
/-- A lock beside those ahead of it. -/
def chkL (ms : List Lm) (i : Nat) : Bool := match ms[i]? with
  | none => true
  | some m => okL m && (decide (i = 0) || match ms[i - 1]? with
    | none => true
    | some p => ltS p.name m.name) && !(ms.take i).any (sameTok m.token)
def preL (ms : List Lm) (i : Nat) : Bool := (List.range i).all (chkL ms)
def rightL (ms : List Lm) : Bool := preL ms ms.length && decide (ms.length ≤ 4)
theorem preL_succ (ms : List Lm) (i : Nat) : preL ms (i + 1) = (preL ms i && chkL ms i) := by simp [preL, List.range_succ]
theorem preL_not {ms : List Lm} (i : Nat) (hi : i < ms.length) (h : chkL ms i = false) : rightL ms = false := by
  have : preL ms ms.length = false := by
    rw [preL, List.all_eq_false]
    exact ⟨i, List.mem_range.2 hi, by rw [h]; decide⟩
  rw [rightL, this]; rfl
theorem chkL_bad {ms : List Lm} {i : Nat} {m : Lm} (hx : ms[i]? = some m) (h : okL m = false) : chkL ms i = false := by rw [chkL, hx]; simp [h]
theorem chkL_tok {ms : List Lm} {i : Nat} {m : Lm} (hx : ms[i]? = some m) (h : (ms.take i).any (sameTok m.token) = true) : chkL ms i = false := by rw [chkL, hx]; simp only; rw [h]; simp
theorem chkL_s {ms : List Lm} {i : Nat} {m p : Lm} (hi : 0 < i) (hx : ms[i]? = some m) (hy : ms[i - 1]? = some p) : chkL ms i = (okL m && ltS p.name m.name && !(ms.take i).any (sameTok m.token)) := by
  rw [chkL, hx]
  simp only
  rw [hy, decide_eq_false (by omega : ¬ i = 0), Bool.false_or]
theorem chkL_0 {ms : List Lm} {m : Lm} (hx : ms[0]? = some m) : chkL ms 0 = okL m := by rw [chkL, hx]; simp
theorem okL_head {m : Lm} (h : ¬ (nameM m.name.data.toList = true ∧ 0 ≤ m.holder ∧ m.holder < 8 ∧ 1 ≤ m.token ∧ m.token ≤ 2305843009213693952)) : okL m = false := by rw [okL, decide_eq_false h]; rfl
theorem okL_line {m : Lm} (h : rightM m.line = false) : okL m = false := by rw [okL, h, Bool.and_false]; rfl
theorem okL_in {m : Lm} (h : m.holder ∈ m.line) : okL m = false := by rw [okL, decide_eq_true h]; simp
theorem okL_ok {m : Lm} (h : nameM m.name.data.toList = true ∧ 0 ≤ m.holder ∧ m.holder < 8 ∧ 1 ≤ m.token ∧ m.token ≤ 2305843009213693952) (h1 : rightM m.line = true) (h2 : ¬ m.holder ∈ m.line) : okL m = true := by rw [okL, decide_eq_true h, h1, decide_eq_false h2]; rfl
theorem all2_any {α β : Type} {R : α → β → Prop} {p : α → Bool} {q : β → Bool} (hpq : ∀ a b, R a b → p a = q b) : ∀ {xs : List α} {ys : List β}, All2 R xs ys → xs.any p = ys.any q
  | [], [], _ => rfl
  | a :: xs, b :: ys, h => by rw [List.any_cons, List.any_cons, hpq a b h.1, all2_any hpq h.2]
def smallL (ms : List Lm) : Prop := ∀ m ∈ ms, m.name.size ≤ 9223372036854775807
def nA : ByteArray := ByteArray.mk #[97]
theorem aw1 : takeM [] nA 1 6 true = ([⟨nA, 1, 7, []⟩], 0, 0) := by decide
theorem aw2 : takeM [⟨nA, 1, 7, []⟩] nA 2 7 true = ([⟨nA, 1, 7, [2]⟩], 0, 10) := by decide
theorem aw3 : freeM [⟨nA, 1, 7, [2]⟩] nA 1 7 = ([⟨nA, 2, 8, []⟩], 1, 0) := by decide
set_option maxHeartbeats 4000000 in
theorem awake8_c (w : World) : Calls Try.prog 31 #[] w fun e w' => e = .returned (.bool true) ∧ Ext0 w w' := by
  have H := SH.start (U := Non) (G := Any) w
  refine calls_of_CW Try.func31 rfl Try.ntmps31 (Nat.le_of_ble_eq_true rfl) ?_
  simp only [argE, argFrom, Nat.reduceAdd]
  refine CW.seq (fun K1 h1 => ?_)
  refine CW.region ?_
  refine r_assign rfl ?_
  refine LW.nil ?_
  refine thenE_norm (h1 _ _ ?_); clear h1; try clear K1
  refine CW.seq (fun K2 h2 => ?_)
  refine CW.region ?_
  refine r_call rfl Try.call32 (by simp only [List.map_cons, List.map_nil, List.map_toArray, List.toList_toArray, upd_get, ev, Nat.reduceEqDiff, ↓reduceIte] <;> rfl) (TakeK_c (K := Non) (raws := []) (ms := []) nA 1 6 true _ (Rs.nil : Rs Non _ _ _) trivial (by decide) (fun m h => by cases h) List.Pairwise.nil (by decide) (by decide)) ?_
  rintro _ w1_0 ⟨v1_0, raws1_0, g1_0, F1_0, rfl, K⟩
  refine ⟨_, rfl, ?_⟩
  replace H := SH.call H K
  clear K
  try dsimp only [replC, List.cons_append, List.nil_append, List.append_nil] at H
  rw [aw1] at H ⊢
  dsimp only at H ⊢
  refine r_move rfl ?_
  refine r_extract rfl (by simp only [upd_get, ev, Nat.reduceEqDiff, ↓reduceIte] <;> rfl) (by simp only [List.getElem?_toArray, List.getElem?_cons_zero, List.getElem?_cons_succ] <;> rfl) ?_
  refine r_extract rfl (by simp only [upd_get, ev, Nat.reduceEqDiff, ↓reduceIte] <;> rfl) (by simp only [List.getElem?_toArray, List.getElem?_cons_zero, List.getElem?_cons_succ] <;> rfl) ?_
  refine r_extract rfl (by simp only [upd_get, ev, Nat.reduceEqDiff, ↓reduceIte] <;> rfl) (by simp only [List.getElem?_toArray, List.getElem?_cons_zero, List.getElem?_cons_succ] <;> rfl) ?_
  refine r_assign rfl ?_
  refine r_assign rfl ?_
  refine r_assign rfl ?_
  refine LW.nil ?_
  refine thenE_norm ?_
  refine cut (K := K2) [1, 2, 3] (fun σ => ?_)
  simp only [setL, keepE, upd_get, ev, Nat.reduceEqDiff, ↓reduceIte]
  refine h2 _ _ ?_; clear h2; try clear K2
  refine CW.seq (fun K3 h3 => ?_)
  refine CW.region ?_
  refine r_move rfl ?_
  refine r_call rfl Try.call32 (by simp only [List.map_cons, List.map_nil, List.map_toArray, List.toList_toArray, upd_get, ev, Nat.reduceEqDiff, ↓reduceIte] <;> rfl) (TakeK_c nA 2 7 true _ (SH.rsO H (i := 0) rfl) (SH.prop H (i := 1) rfl) (by have := All2.len (SH.prop H (i := 1) rfl); simp at this; omega) (fun m h => by simp at h; subst h; decide) (List.pairwise_singleton _ _) (by decide) (by decide)) ?_
  rintro _ w2_1 ⟨v2_1, raws2_1, g2_1, F2_1, rfl, K⟩
  refine ⟨_, rfl, ?_⟩
  replace H := SH.call H K
  clear K
  try dsimp only [replC, List.cons_append, List.nil_append, List.append_nil] at H
  rw [aw2] at H ⊢
  dsimp only at H ⊢
  refine r_move rfl ?_
  refine r_extract rfl (by simp only [upd_get, ev, Nat.reduceEqDiff, ↓reduceIte] <;> rfl) (by simp only [List.getElem?_toArray, List.getElem?_cons_zero, List.getElem?_cons_succ] <;> rfl) ?_
  refine r_extract rfl (by simp only [upd_get, ev, Nat.reduceEqDiff, ↓reduceIte] <;> rfl) (by simp only [List.getElem?_toArray, List.getElem?_cons_zero, List.getElem?_cons_succ] <;> rfl) ?_
  refine r_extract rfl (by simp only [upd_get, ev, Nat.reduceEqDiff, ↓reduceIte] <;> rfl) (by simp only [List.getElem?_toArray, List.getElem?_cons_zero, List.getElem?_cons_succ] <;> rfl) ?_
  refine r_assign rfl ?_
  refine r_assign rfl ?_
  refine r_assign rfl ?_
  refine LW.nil ?_
  refine thenE_norm ?_
  refine cut (K := K3) [1, 2, 3, 4, 5, 6] (fun σ => ?_)
  simp only [setL, keepE, upd_get, ev, Nat.reduceEqDiff, ↓reduceIte]
  refine h3 _ _ ?_; clear h3; try clear K3
  refine CW.seq (fun K4 h4 => ?_)
  refine CW.region ?_
  refine r_move rfl ?_
  refine r_call rfl Try.call33 (by simp only [List.map_cons, List.map_nil, List.map_toArray, List.toList_toArray, upd_get, ev, Nat.reduceEqDiff, ↓reduceIte] <;> rfl) (FreeK_c nA 1 7 _ (SH.rsO H (i := 2) rfl) (SH.prop H (i := 3) rfl) (by have := All2.len (SH.prop H (i := 3) rfl); simp at this; omega) (fun m h => by simp at h; subst h; decide) (List.pairwise_singleton _ _) (by decide) (by decide)) ?_
  rintro _ w3_1 ⟨v3_1, raws3_1, g3_1, F3_1, rfl, K⟩
  refine ⟨_, rfl, ?_⟩
  replace H := SH.call H K
  clear K
  try dsimp only [replC, List.cons_append, List.nil_append, List.append_nil] at H
  rw [aw3] at H ⊢
  dsimp only at H ⊢
  refine r_move rfl ?_
  refine r_extract rfl (by simp only [upd_get, ev, Nat.reduceEqDiff, ↓reduceIte] <;> rfl) (by simp only [List.getElem?_toArray, List.getElem?_cons_zero, List.getElem?_cons_succ] <;> rfl) ?_
  refine r_extract rfl (by simp only [upd_get, ev, Nat.reduceEqDiff, ↓reduceIte] <;> rfl) (by simp only [List.getElem?_toArray, List.getElem?_cons_zero, List.getElem?_cons_succ] <;> rfl) ?_
  refine r_extract rfl (by simp only [upd_get, ev, Nat.reduceEqDiff, ↓reduceIte] <;> rfl) (by simp only [List.getElem?_toArray, List.getElem?_cons_zero, List.getElem?_cons_succ] <;> rfl) ?_
  refine r_assign rfl ?_
  refine r_assign rfl ?_
  refine r_assign rfl ?_
  refine LW.nil ?_
  refine thenE_norm ?_
  refine cut (K := K4) [1, 2, 3, 5, 6, 7, 8, 9] (fun σ => ?_)
  simp only [setL, keepE, upd_get, ev, Nat.reduceEqDiff, ↓reduceIte]
  refine h4 _ _ ?_; clear h4; try clear K4
  refine CW.seq (fun K5 h5 => ?_)
  refine CW.region ?_
  refine r_move rfl ?_
  refine r_buildQ rfl Try.underlying53 Try.zeroValue53 rfl (pl := [(0, 1), (1, 1), (2, 1), (3, 1)]) (by intro w; simp [go_sem]) (qs := [(0, [_]), (1, [_]), (2, [_])]) (cs := [_, _, _, .slice none 0 0]) ⟨rfl, cells_one (by simp only [upd_get, ev, Nat.reduceEqDiff, ↓reduceIte] <;> rfl) (by first | rfl | exact Rs.oneC (by first | assumption | exact SH.rsR H (by (repeat first | exact At.here | apply At.there); done) | exact SH.rsO H (by (repeat first | exact At.here | apply At.there); done) | exact (Rs.nil : Rs Non _ _ _))), rfl, cells_one (by simp only [upd_get, ev, Nat.reduceEqDiff, ↓reduceIte] <;> rfl) (by first | rfl | exact Rs.oneC (by first | assumption | exact SH.rsR H (by (repeat first | exact At.here | apply At.there); done) | exact SH.rsO H (by (repeat first | exact At.here | apply At.there); done) | exact (Rs.nil : Rs Non _ _ _))), rfl, cells_one (by simp only [upd_get, ev, Nat.reduceEqDiff, ↓reduceIte] <;> rfl) (by first | rfl | exact Rs.oneC (by first | assumption | exact SH.rsR H (by (repeat first | exact At.here | apply At.there); done) | exact SH.rsO H (by (repeat first | exact At.here | apply At.there); done) | exact (Rs.nil : Rs Non _ _ _))), trivial⟩ rfl ?_
  refine r_buildSliceA (vs := [_]) rfl Try.underlying48 Try.sizeOf53 Try.zeroValue53 rfl rfl rfl rfl (by simp only [List.map_cons, List.map_nil, List.toList_toArray, numbered, Nat.reduceAdd, upd_get, ev, Nat.reduceEqDiff, ↓reduceIte] <;> rfl) rfl (by intro v hv; simp only [List.mem_cons, List.not_mem_nil, or_false] at hv; rcases hv with rfl <;> rfl) ?_
  intro b4_2 w4_2 hb4_2 hs4_2 hE4_2 hB4_2
  replace H := SH.call H (SH.fromB hE4_2 hb4_2 hs4_2 hB4_2)
  clear hb4_2 hs4_2 hE4_2 hB4_2
  try dsimp only [replC, List.cons_append, List.nil_append, List.append_nil, agg, cellsL, Value.cells, List.toList_toArray, List.set_cons_zero, List.set_cons_succ, spliceL, List.take_succ_cons, List.take_zero, List.drop_succ_cons, List.drop_zero, List.length_cons, List.length_nil, Nat.reduceAdd, Row.cells, Gr.L, Lk.L] at H
  replace H := SH.row (b := b4_2) (xs := ([⟨nA, 1, 7, .slice none 0 0⟩] : List Lk)) (n := 1) (cap := 1) H (by (repeat first | exact At.here | apply At.there); done) (by simp only [flat, List.flatMap_cons, List.flatMap_nil, cellsL, agg, List.append_nil, List.cons_append, List.nil_append, List.toList_toArray, Row.cells, Gr.L, Lk.L] <;> rfl) (by intro x hx; first | rfl | (simp at hx; done) | (simp only [List.mem_cons, List.not_mem_nil, or_false] at hx; rcases hx with rfl <;> first | rfl | exact (by first | rfl | assumption | exact Rs.oneC (by first | assumption | exact SH.rsR H (by (repeat first | exact At.here | apply At.there); done) | exact SH.rsO H (by (repeat first | exact At.here | apply At.there); done) | exact (Rs.nil : Rs Non _ _ _)) | (simp only [List.all_cons, List.all_nil, Bool.and_true, Bool.and_eq_true, Row.cells, Gr.L, Lk.L]; (repeat' constructor) <;> first | rfl | assumption | exact Rs.oneC (by first | assumption | exact SH.rsR H (by (repeat first | exact At.here | apply At.there); done) | exact SH.rsO H (by (repeat first | exact At.here | apply At.there); done) | exact (Rs.nil : Rs Non _ _ _)))))) (by rfl) rfl (by decide)
  try dsimp only [replC, List.cons_append, List.nil_append, List.append_nil, agg, cellsL, Value.cells, List.toList_toArray, List.set_cons_zero, List.set_cons_succ, spliceL, List.take_succ_cons, List.take_zero, List.drop_succ_cons, List.drop_zero, List.length_cons, List.length_nil, Nat.reduceAdd, Row.cells, Gr.L, Lk.L] at H
  refine r_call rfl Try.call35 (by simp only [List.map_cons, List.map_nil, List.map_toArray, List.toList_toArray, upd_get, ev, Nat.reduceEqDiff, ↓reduceIte] <;> rfl) (SameLocks_c (K := F1_0) (K2 := Non) (ms := [⟨nA, 1, 7, []⟩]) (ns := [⟨nA, 1, 7, []⟩]) _ (SH.rsO H (i := 0) rfl) (SH.rsO H (i := 6) rfl) (SH.prop H (i := 1) rfl) ⟨⟨rfl, rfl, rfl, Rs.nil⟩, trivial⟩) ?_
  rintro _ w4_3 ⟨rfl, X⟩
  refine ⟨_, rfl, ?_⟩
  replace H := SH.same H X
  clear X
  refine r_move rfl ?_
  refine LW.known (t := 31) (c := true) rfl (by simp) (fun hg4_5 => ?_)
  refine LW.want rfl rfl hg4_5 ?_
  refine r_move rfl ?_
  refine LW.want rfl rfl hg4_5 ?_
  refine r_eql rfl rfl rfl ?_
  refine r_pickT rfl rfl hg4_5 ?_
  refine r_move rfl ?_
  refine LW.known (t := 35) (c := true) rfl (by first | rfl | (simp only [decide_eq_true_eq, decide_eq_false_iff_not, Bool.and_eq_true, Bool.or_eq_true, Bool.and_eq_false_iff, Bool.or_eq_false_iff, Bool.not_eq_true', Bool.not_eq_false', beq_iff_eq, bne_iff_ne]; omega) | simp_all) (fun hg4_9 => ?_)
  refine LW.want rfl rfl hg4_9 ?_
  refine r_move rfl ?_
  refine LW.want rfl rfl hg4_9 ?_
  refine r_eql rfl rfl rfl ?_
  refine r_pickT rfl rfl hg4_9 ?_
  refine r_move rfl ?_
  refine LW.known (t := 39) (c := true) rfl (by first | rfl | (simp only [decide_eq_true_eq, decide_eq_false_iff_not, Bool.and_eq_true, Bool.or_eq_true, Bool.and_eq_false_iff, Bool.or_eq_false_iff, Bool.not_eq_true', Bool.not_eq_false', beq_iff_eq, bne_iff_ne]; omega) | simp_all) (fun hg4_13 => ?_)
  refine LW.want rfl rfl hg4_13 ?_
  refine r_move rfl ?_
  refine LW.want rfl rfl hg4_13 ?_
  refine r_eql rfl rfl rfl ?_
  refine r_pickT rfl rfl hg4_13 ?_
  refine r_move rfl ?_
  refine LW.known (t := 43) (c := true) rfl (by first | rfl | (simp only [decide_eq_true_eq, decide_eq_false_iff_not, Bool.and_eq_true, Bool.or_eq_true, Bool.and_eq_false_iff, Bool.or_eq_false_iff, Bool.not_eq_true', Bool.not_eq_false', beq_iff_eq, bne_iff_ne]; omega) | simp_all) (fun hg4_17 => ?_)
  refine LW.want rfl rfl hg4_17 ?_
  refine r_move rfl ?_
  refine LW.want rfl rfl hg4_17 ?_
  refine r_eql rfl rfl rfl ?_
  refine r_pickT rfl rfl hg4_17 ?_
  refine r_move rfl ?_
  refine LW.known (t := 47) (c := true) rfl (by first | rfl | (simp only [decide_eq_true_eq, decide_eq_false_iff_not, Bool.and_eq_true, Bool.or_eq_true, Bool.and_eq_false_iff, Bool.or_eq_false_iff, Bool.not_eq_true', Bool.not_eq_false', beq_iff_eq, bne_iff_ne]; omega) | simp_all) (fun hg4_21 => ?_)
  refine LW.want rfl rfl hg4_21 ?_
  refine r_move rfl ?_
  refine LW.want rfl rfl hg4_21 ?_
  refine r_eql rfl rfl rfl ?_
  refine r_pickT rfl rfl hg4_21 ?_
  refine r_move rfl ?_
  refine LW.known (t := 51) (c := true) rfl (by first | rfl | (simp only [decide_eq_true_eq, decide_eq_false_iff_not, Bool.and_eq_true, Bool.or_eq_true, Bool.and_eq_false_iff, Bool.or_eq_false_iff, Bool.not_eq_true', Bool.not_eq_false', beq_iff_eq, bne_iff_ne]; omega) | simp_all) (fun hg4_25 => ?_)
  refine LW.want rfl rfl hg4_25 ?_
  refine r_move rfl ?_
  refine LW.want rfl rfl hg4_25 ?_
  refine r_eql rfl rfl rfl ?_
  refine r_pickT rfl rfl hg4_25 ?_
  refine r_move rfl ?_
  refine LW.known (t := 55) (c := true) rfl (by first | rfl | (simp only [decide_eq_true_eq, decide_eq_false_iff_not, Bool.and_eq_true, Bool.or_eq_true, Bool.and_eq_false_iff, Bool.or_eq_false_iff, Bool.not_eq_true', Bool.not_eq_false', beq_iff_eq, bne_iff_ne]; omega) | simp_all) (fun hg4_29 => ?_)
  refine LW.want rfl rfl hg4_29 ?_
  refine r_move rfl ?_
  refine LW.want rfl rfl hg4_29 ?_
  refine r_buildQ rfl Try.underlying53 Try.zeroValue53 rfl (pl := [(0, 1), (1, 1), (2, 1), (3, 1)]) (by intro w; simp [go_sem]) (qs := [(0, [_]), (1, [_]), (2, [_])]) (cs := [_, _, _, .slice none 0 0]) ⟨rfl, cells_one (by simp only [upd_get, ev, Nat.reduceEqDiff, ↓reduceIte] <;> rfl) (by first | rfl | exact Rs.oneC (by first | assumption | exact SH.rsR H (by (repeat first | exact At.here | apply At.there); done) | exact SH.rsO H (by (repeat first | exact At.here | apply At.there); done) | exact (Rs.nil : Rs Non _ _ _))), rfl, cells_one (by simp only [upd_get, ev, Nat.reduceEqDiff, ↓reduceIte] <;> rfl) (by first | rfl | exact Rs.oneC (by first | assumption | exact SH.rsR H (by (repeat first | exact At.here | apply At.there); done) | exact SH.rsO H (by (repeat first | exact At.here | apply At.there); done) | exact (Rs.nil : Rs Non _ _ _))), rfl, cells_one (by simp only [upd_get, ev, Nat.reduceEqDiff, ↓reduceIte] <;> rfl) (by first | rfl | exact Rs.oneC (by first | assumption | exact SH.rsR H (by (repeat first | exact At.here | apply At.there); done) | exact SH.rsO H (by (repeat first | exact At.here | apply At.there); done) | exact (Rs.nil : Rs Non _ _ _))), trivial⟩ rfl ?_
  refine LW.want rfl rfl hg4_29 ?_
  refine r_buildSliceA (vs := [_]) rfl Try.underlying48 Try.sizeOf53 Try.zeroValue53 rfl rfl rfl rfl (by simp only [List.map_cons, List.map_nil, List.toList_toArray, numbered, Nat.reduceAdd, upd_get, ev, Nat.reduceEqDiff, ↓reduceIte] <;> rfl) rfl (by intro v hv; simp only [List.mem_cons, List.not_mem_nil, or_false] at hv; rcases hv with rfl <;> rfl) ?_
  intro b4_31 w4_31 hb4_31 hs4_31 hE4_31 hB4_31
  replace H := SH.call H (SH.fromB hE4_31 hb4_31 hs4_31 hB4_31)
  clear hb4_31 hs4_31 hE4_31 hB4_31
  try dsimp only [replC, List.cons_append, List.nil_append, List.append_nil, agg, cellsL, Value.cells, List.toList_toArray, List.set_cons_zero, List.set_cons_succ, spliceL, List.take_succ_cons, List.take_zero, List.drop_succ_cons, List.drop_zero, List.length_cons, List.length_nil, Nat.reduceAdd, Row.cells, Gr.L, Lk.L] at H
  replace H := SH.row (b := b4_31) (xs := ([⟨nA, 2, 8, .slice none 0 0⟩] : List Lk)) (n := 1) (cap := 1) H (by (repeat first | exact At.here | apply At.there); done) (by simp only [flat, List.flatMap_cons, List.flatMap_nil, cellsL, agg, List.append_nil, List.cons_append, List.nil_append, List.toList_toArray, Row.cells, Gr.L, Lk.L] <;> rfl) (by intro x hx; first | rfl | (simp at hx; done) | (simp only [List.mem_cons, List.not_mem_nil, or_false] at hx; rcases hx with rfl <;> first | rfl | exact (by first | rfl | assumption | exact Rs.oneC (by first | assumption | exact SH.rsR H (by (repeat first | exact At.here | apply At.there); done) | exact SH.rsO H (by (repeat first | exact At.here | apply At.there); done) | exact (Rs.nil : Rs Non _ _ _)) | (simp only [List.all_cons, List.all_nil, Bool.and_true, Bool.and_eq_true, Row.cells, Gr.L, Lk.L]; (repeat' constructor) <;> first | rfl | assumption | exact Rs.oneC (by first | assumption | exact SH.rsR H (by (repeat first | exact At.here | apply At.there); done) | exact SH.rsO H (by (repeat first | exact At.here | apply At.there); done) | exact (Rs.nil : Rs Non _ _ _)))))) (by rfl) rfl (by decide)
  try dsimp only [replC, List.cons_append, List.nil_append, List.append_nil, agg, cellsL, Value.cells, List.toList_toArray, List.set_cons_zero, List.set_cons_succ, spliceL, List.take_succ_cons, List.take_zero, List.drop_succ_cons, List.drop_zero, List.length_cons, List.length_nil, Nat.reduceAdd, Row.cells, Gr.L, Lk.L] at H
  refine LW.want rfl rfl hg4_29 ?_
  refine r_call rfl Try.call35 (by simp only [List.map_cons, List.map_nil, List.map_toArray, List.toList_toArray, upd_get, ev, Nat.reduceEqDiff, ↓reduceIte] <;> rfl) (SameLocks_c (K := F3_1) (K2 := Non) (ms := [⟨nA, 2, 8, []⟩]) (ns := [⟨nA, 2, 8, []⟩]) _ (SH.rsO H (i := 4) rfl) (SH.rsO H (i := 7) rfl) (SH.prop H (i := 5) rfl) ⟨⟨rfl, rfl, rfl, Rs.nil⟩, trivial⟩) ?_
  rintro _ w4_32 ⟨rfl, X⟩
  refine ⟨_, rfl, ?_⟩
  replace H := SH.same H X
  clear X
  refine r_pickT rfl rfl hg4_29 ?_
  refine r_assign rfl ?_
  refine LW.nil ?_
  refine thenE_norm ?_
  refine cut (K := K5) [0] (fun σ => ?_)
  simp only [setL, keepE, upd_get, ev, Nat.reduceEqDiff, ↓reduceIte]
  refine h5 _ _ ?_; clear h5; try clear K5
  refine CW.ret (ret1 Try.results31 (by simp only [upd_get, ev, Nat.reduceEqDiff, ↓reduceIte]; rfl) ?_)
  exact ⟨by simp, H.ext⟩
end Go.Proofs.Ytaggdlbjgjagbaa
