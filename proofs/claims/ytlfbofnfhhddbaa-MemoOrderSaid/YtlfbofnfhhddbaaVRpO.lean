/-
  The walks of layer 5's laws: replies by numbers.
-/
import Derived.Test.YtlfbofnfhhddbaaVRpN
namespace Go.Proofs.Ytlfbofnfhhddbaa
set_option linter.unusedSimpArgs false
set_option linter.unusedVariables false
set_option maxRecDepth 20000
open Go.V Go.RowKit Go.ChangeShapes Go.WideShapes

theorem mayG_snoc {gs : List Gr} {x : Gr} (h : mayG gs = true) (hg : goodG x = true) (hl : ∀ y ∈ gs, ltS y.name x.name = true) : mayG (gs ++ [x]) = true := by
  have h1 : preG (gs ++ [x]) gs.length = preG gs gs.length := by
    rw [preG, preG, Bool.eq_iff_iff, List.all_eq_true, List.all_eq_true]
    refine forall_congr' fun j => forall_congr' fun hj => ?_
    rw [List.mem_range] at hj
    have e : chkG (gs ++ [x]) j = chkG gs j := by
      rw [chkG, chkG, List.getElem?_append_left hj, List.getElem?_append_left (by omega)]
    rw [e]
  rw [mayG, List.length_append, List.length_singleton, preG_succ, h1, ← mayG, h, Bool.true_and]
  have hx : (gs ++ [x])[gs.length]? = some x := by simp
  by_cases h0 : gs.length = 0
  · have : gs = [] := List.length_eq_zero_iff.1 h0
    subst this
    rw [List.length_nil, chkG_0 (x := x) rfl, hg]
  · obtain ⟨y, hy⟩ := get_of_lt (show gs.length - 1 < gs.length by omega)
    rw [chkG_s (by omega) hx (by rw [List.getElem?_append_left (by omega)]; exact hy), hg, hl y (List.mem_of_getElem? hy)]; rfl
def five : List ByteArray := [⟨#[97]⟩, ⟨#[98]⟩, ⟨#[107, 101, 121, 45, 49]⟩, ⟨#[108, 111, 99, 107]⟩, ⟨#[120]⟩]
theorem five_good {k : Nat} {s : ByteArray} (h : five[k]? = some s) : nameM s.data.toList = true ∧ s.size ≤ 12 := by
  match k, h with
  | 0, h => cases h; decide
  | 1, h => cases h; decide
  | 2, h => cases h; decide
  | 3, h => cases h; decide
  | 4, h => cases h; decide
theorem five_lt {k j : Nat} {s t : ByteArray} (hs : five[k]? = some s) (ht : five[j]? = some t) (h : k < j) : ltS s t = true := by
  have hj := lt_of_get ht
  have h5 : five.length = 5 := rfl
  have hk : k = 0 ∨ k = 1 ∨ k = 2 ∨ k = 3 ∨ k = 4 := by omega
  have hj2 : j = 0 ∨ j = 1 ∨ j = 2 ∨ j = 3 ∨ j = 4 := by omega
  rcases hk with rfl | rfl | rfl | rfl | rfl <;> rcases hj2 with rfl | rfl | rfl | rfl | rfl <;> first | omega | (cases hs; cases ht; decide)
/-- Locks by numbers, on the way. -/
def wayG (gs : List Gr) (i : Nat) : Prop := mayG gs = true ∧ ∀ g ∈ gs, ∃ k, k + 3 < i ∧ five[k]? = some g.name
theorem wayG_nil : wayG [] 3 := ⟨rfl, by simp⟩
theorem wayG_snoc {gs : List Gr} {i : Nat} {s : ByteArray} {t : Int} (h : wayG gs i) (h3 : 3 ≤ i) (hs : five[i - 3]? = some s) (h0 : 1 ≤ t) (h1 : t ≤ 2305843009213693952) : wayG (gs ++ [⟨s, t⟩]) (i + 1) := by
  have hg := five_good hs
  refine ⟨mayG_snoc h.1 (by rw [goodG, hg.1, decide_eq_true h0, decide_eq_true h1]; rfl) (fun y hy => ?_), fun g hgm => ?_⟩
  · obtain ⟨k, hk, hkn⟩ := h.2 y hy
    exact five_lt hkn hs (by omega)
  · rcases List.mem_append.1 hgm with hm | hm
    · obtain ⟨k, hk, hkn⟩ := h.2 g hm
      exact ⟨k, by omega, hkn⟩
    · rw [List.mem_singleton] at hm; subst hm
      exact ⟨i - 3, by omega, hs⟩
theorem wayG_up {gs : List Gr} {i : Nat} (h : wayG gs i) : wayG gs (i + 1) := ⟨h.1, fun g hg => by obtain ⟨k, hk, hkn⟩ := h.2 g hg; exact ⟨k, by omega, hkn⟩⟩
theorem wayG_small {gs : List Gr} {i : Nat} (h : wayG gs i) : smallG gs := fun g hg => by have := (good_len (mayG_all h.1 g hg)).1; omega
set_option maxHeartbeats 4000000 in
theorem Reply_c {F : Nat → Prop} {v : Value} {ns : List UInt8} (w : World) (hv : Rs F w v ns) :
    Calls Try.prog 40 #[v] w fun e w' => ∃ (c s a : Int) (u : Value) (gs : List Gr) (g : Option Nat), e = .returned (agg (⟨c, s, a, u⟩ : Rep)) ∧ mayRep c s a gs = true ∧ smallG gs ∧ SH Non Non w w' [.O 61 u gs g] := by
  have H := (SH.start w).arg hv
  have h63 := hv.len63
  refine calls_of_CW Try.func40 rfl Try.ntmps40 (Nat.le_of_ble_eq_true rfl) ?_
  simp only [argE, argFrom, Nat.reduceAdd]
  refine CW.seq (fun K1 h1 => ?_)
  refine CW.region ?_
  refine s_alloc (cs := [.int .i64 0, .int .i64 0, .int .i64 0, .slice none 0 0]) H rfl Try.zeroValue50 rfl ?_
  clear H
  intro b0_0 w0_0 H
  try dsimp only [replC, List.cons_append, List.nil_append, List.append_nil, agg, cellsL, Value.cells, List.toList_toArray, List.set_cons_zero, List.set_cons_succ, spliceL, List.take_succ_cons, List.take_zero, List.drop_succ_cons, List.drop_zero, List.length_cons, List.length_nil, Nat.reduceAdd, Row.cells, Gr.L, Rep.L, Mem.L, Ans.L] at H
  refine LW.nil ?_
  refine thenE_norm (h1 _ _ ?_); clear h1; try clear K1
  refine CW.seq (fun K2 h2 => ?_)
  refine CW.region ?_
  refine s_alloc (cs := [.int .i64 0, .int .i64 0, .int .i64 0, .slice none 0 0]) H rfl Try.zeroValue50 rfl ?_
  clear H
  intro b1_0 w1_0 H
  try dsimp only [replC, List.cons_append, List.nil_append, List.append_nil, agg, cellsL, Value.cells, List.toList_toArray, List.set_cons_zero, List.set_cons_succ, spliceL, List.take_succ_cons, List.take_zero, List.drop_succ_cons, List.drop_zero, List.length_cons, List.length_nil, Nat.reduceAdd, Row.cells, Gr.L, Rep.L, Mem.L, Ans.L] at H
  refine LW.nil ?_
  refine thenE_norm (h2 _ _ ?_); clear h2; try clear K2
  refine CW.seqJ [0, 2, 3] [] (fun vs w' => ∃ c s a : Int, vs = [] ∧ 0 ≤ c ∧ c ≤ 12 ∧ 0 ≤ s ∧ s ≤ 4 ∧ 0 ≤ a ∧ a ≤ 3 ∧ SH Non Any w w' [.R (Old w) v ns, .B b0_0 50 [.int .i64 0, .int .i64 0, .int .i64 0, .slice none 0 0], .B b1_0 50 [.int .i64 c, .int .i64 s, .int .i64 a, .slice none 0 0]]) ?_ ?_
  · refine CW.seq (fun K4 h4 => ?_)
    refine CW.region ?_
    refine r_move rfl ?_
    first
      | refine r_lenV rfl Try.underlying43 (by simp only [upd_get, ev, Nat.reduceEqDiff, ↓reduceIte] <;> rfl) (by first | assumption | exact SH.rsR H (by (repeat first | exact At.here | apply At.there); done) | exact SH.rsO H (by (repeat first | exact At.here | apply At.there); done) | exact (Rs.nil : Rs Non _ _ _)) ?_
      | refine r_len rfl Try.underlying43 rfl ?_
    refine r_gtr rfl rfl rfl ?_
    refine LW.nil ?_
    refine thenE_norm (h4 _ _ ?_); clear h4; try clear K4
    refine CW.cond rfl (fun hc1 => ?_) (fun hc1 => ?_)
    · try simp only [decide_eq_true_eq, decide_eq_false_iff_not, Bool.and_eq_true, Bool.or_eq_true, Bool.and_eq_false_iff, Bool.or_eq_false_iff, Bool.not_eq_true', Bool.not_eq_false', beq_iff_eq, bne_iff_ne, ne_eq, Decidable.not_not] at hc1
      obtain ⟨x0, hx0⟩ := get_of_lt (show 0 < ns.length by omega)
      obtain ⟨x1, hx1⟩ := get_of_lt (show 1 < ns.length by omega)
      obtain ⟨x2, hx2⟩ := get_of_lt (show 2 < ns.length by omega)
      have hl0 := x0.toNat_lt
      have hl1 := x1.toNat_lt
      have hl2 := x2.toNat_lt
      refine CW.seq (fun K5 h5 => ?_)
      refine CW.region ?_
      refine r_move rfl ?_
      refine r_indexAddrV rfl Try.underlying43 (by simp only [upd_get, ev, Nat.reduceEqDiff, ↓reduceIte] <;> rfl) rfl (by first | assumption | exact SH.rsR H (by (repeat first | exact At.here | apply At.there); done) | exact SH.rsO H (by (repeat first | exact At.here | apply At.there); done) | exact (Rs.nil : Rs Non _ _ _)) (by exact Try.sizeOf5) (by omega) (by omega) ?_
      refine r_load rfl Try.isAgg5 rfl (by first | exact Rs.cell (by first | assumption | exact SH.rsR H (by (repeat first | exact At.here | apply At.there); done) | exact SH.rsO H (by (repeat first | exact At.here | apply At.there); done) | exact (Rs.nil : Rs Non _ _ _)) (by assumption) (by rfl) | exact Rs.cell0 (by first | assumption | exact SH.rsR H (by (repeat first | exact At.here | apply At.there); done) | exact SH.rsO H (by (repeat first | exact At.here | apply At.there); done) | exact (Rs.nil : Rs Non _ _ _)) (by assumption) (by rfl) | assumption) ?_
      refine r_convI rfl Try.underlying5 Try.underlying3 rfl (wr_i64 (by omega) (by omega)) ?_
      refine r_rem rfl rfl rfl (by omega) (by omega) (wr_i64 (by omega) (by omega)) ?_
      refine r_fieldAddrO rfl Try.underlying50 rfl Try.sizeOf24 (by decide) (show _ = 0 from rfl) rfl ?_
      refine s_store H Try.sizeOf24 rfl (by simp only [upd_get, ev, Nat.reduceEqDiff, ↓reduceIte] <;> rfl) (by first | rfl | assumption | exact Rs.oneC (by first | assumption | exact SH.rsR H (by (repeat first | exact At.here | apply At.there); done) | exact SH.rsO H (by (repeat first | exact At.here | apply At.there); done) | exact (Rs.nil : Rs Non _ _ _)) | (simp only [List.all_cons, List.all_nil, Bool.and_true, Bool.and_eq_true, Row.cells, Gr.L, Rep.L, Mem.L, Ans.L]; (repeat' constructor) <;> first | rfl | assumption | exact Rs.oneC (by first | assumption | exact SH.rsR H (by (repeat first | exact At.here | apply At.there); done) | exact SH.rsO H (by (repeat first | exact At.here | apply At.there); done) | exact (Rs.nil : Rs Non _ _ _)))) (by (repeat first | exact At.here | apply At.there); done) (by first | (simp; done) | decide | omega) ?_
      clear H
      intro w3_6 H
      try dsimp only [replC, List.cons_append, List.nil_append, List.append_nil, agg, cellsL, Value.cells, List.toList_toArray, List.set_cons_zero, List.set_cons_succ, spliceL, List.take_succ_cons, List.take_zero, List.drop_succ_cons, List.drop_zero, List.length_cons, List.length_nil, Nat.reduceAdd, Row.cells, Gr.L, Rep.L, Mem.L, Ans.L] at H
      refine LW.nil ?_
      refine thenE_norm ?_
      refine cut (K := K5) [0, 2, 3] (fun σ => ?_)
      simp only [setL, keepE, upd_get, ev, Nat.reduceEqDiff, ↓reduceIte]
      refine h5 _ _ ?_; clear h5; try clear K5
      refine CW.seq (fun K6 h6 => ?_)
      refine CW.region ?_
      refine r_move rfl ?_
      refine r_indexAddrV rfl Try.underlying43 (by simp only [upd_get, ev, Nat.reduceEqDiff, ↓reduceIte] <;> rfl) rfl (by first | assumption | exact SH.rsR H (by (repeat first | exact At.here | apply At.there); done) | exact SH.rsO H (by (repeat first | exact At.here | apply At.there); done) | exact (Rs.nil : Rs Non _ _ _)) (by exact Try.sizeOf5) (by omega) (by omega) ?_
      refine r_load rfl Try.isAgg5 rfl (by first | exact Rs.cell (by first | assumption | exact SH.rsR H (by (repeat first | exact At.here | apply At.there); done) | exact SH.rsO H (by (repeat first | exact At.here | apply At.there); done) | exact (Rs.nil : Rs Non _ _ _)) (by assumption) (by rfl) | exact Rs.cell0 (by first | assumption | exact SH.rsR H (by (repeat first | exact At.here | apply At.there); done) | exact SH.rsO H (by (repeat first | exact At.here | apply At.there); done) | exact (Rs.nil : Rs Non _ _ _)) (by assumption) (by rfl) | assumption) ?_
      refine r_convI rfl Try.underlying5 Try.underlying3 rfl (wr_i64 (by omega) (by omega)) ?_
      refine r_rem rfl rfl rfl (by omega) (by omega) (wr_i64 (by omega) (by omega)) ?_
      refine r_fieldAddrO rfl Try.underlying50 rfl Try.sizeOf3 (by decide) (show _ = 1 from rfl) rfl ?_
      refine s_store H Try.sizeOf3 rfl (by simp only [upd_get, ev, Nat.reduceEqDiff, ↓reduceIte] <;> rfl) (by first | rfl | assumption | exact Rs.oneC (by first | assumption | exact SH.rsR H (by (repeat first | exact At.here | apply At.there); done) | exact SH.rsO H (by (repeat first | exact At.here | apply At.there); done) | exact (Rs.nil : Rs Non _ _ _)) | (simp only [List.all_cons, List.all_nil, Bool.and_true, Bool.and_eq_true, Row.cells, Gr.L, Rep.L, Mem.L, Ans.L]; (repeat' constructor) <;> first | rfl | assumption | exact Rs.oneC (by first | assumption | exact SH.rsR H (by (repeat first | exact At.here | apply At.there); done) | exact SH.rsO H (by (repeat first | exact At.here | apply At.there); done) | exact (Rs.nil : Rs Non _ _ _)))) (by (repeat first | exact At.here | apply At.there); done) (by first | (simp; done) | decide | omega) ?_
      clear H
      intro w4_6 H
      try dsimp only [replC, List.cons_append, List.nil_append, List.append_nil, agg, cellsL, Value.cells, List.toList_toArray, List.set_cons_zero, List.set_cons_succ, spliceL, List.take_succ_cons, List.take_zero, List.drop_succ_cons, List.drop_zero, List.length_cons, List.length_nil, Nat.reduceAdd, Row.cells, Gr.L, Rep.L, Mem.L, Ans.L] at H
      refine LW.nil ?_
      refine thenE_norm (h6 _ _ ?_); clear h6; try clear K6
      refine CW.region ?_
      refine r_move rfl ?_
      refine r_indexAddrV rfl Try.underlying43 (by simp only [upd_get, ev, Nat.reduceEqDiff, ↓reduceIte] <;> rfl) rfl (by first | assumption | exact SH.rsR H (by (repeat first | exact At.here | apply At.there); done) | exact SH.rsO H (by (repeat first | exact At.here | apply At.there); done) | exact (Rs.nil : Rs Non _ _ _)) (by exact Try.sizeOf5) (by omega) (by omega) ?_
      refine r_load rfl Try.isAgg5 rfl (by first | exact Rs.cell (by first | assumption | exact SH.rsR H (by (repeat first | exact At.here | apply At.there); done) | exact SH.rsO H (by (repeat first | exact At.here | apply At.there); done) | exact (Rs.nil : Rs Non _ _ _)) (by assumption) (by rfl) | exact Rs.cell0 (by first | assumption | exact SH.rsR H (by (repeat first | exact At.here | apply At.there); done) | exact SH.rsO H (by (repeat first | exact At.here | apply At.there); done) | exact (Rs.nil : Rs Non _ _ _)) (by assumption) (by rfl) | assumption) ?_
      refine r_convI rfl Try.underlying5 Try.underlying3 rfl (wr_i64 (by omega) (by omega)) ?_
      refine r_rem rfl rfl rfl (by omega) (by omega) (wr_i64 (by omega) (by omega)) ?_
      refine r_fieldAddrO rfl Try.underlying50 rfl Try.sizeOf3 (by decide) (show _ = 2 from rfl) rfl ?_
      refine s_store H Try.sizeOf3 rfl (by simp only [upd_get, ev, Nat.reduceEqDiff, ↓reduceIte] <;> rfl) (by first | rfl | assumption | exact Rs.oneC (by first | assumption | exact SH.rsR H (by (repeat first | exact At.here | apply At.there); done) | exact SH.rsO H (by (repeat first | exact At.here | apply At.there); done) | exact (Rs.nil : Rs Non _ _ _)) | (simp only [List.all_cons, List.all_nil, Bool.and_true, Bool.and_eq_true, Row.cells, Gr.L, Rep.L, Mem.L, Ans.L]; (repeat' constructor) <;> first | rfl | assumption | exact Rs.oneC (by first | assumption | exact SH.rsR H (by (repeat first | exact At.here | apply At.there); done) | exact SH.rsO H (by (repeat first | exact At.here | apply At.there); done) | exact (Rs.nil : Rs Non _ _ _)))) (by (repeat first | exact At.here | apply At.there); done) (by first | (simp; done) | decide | omega) ?_
      clear H
      intro w5_6 H
      try dsimp only [replC, List.cons_append, List.nil_append, List.append_nil, agg, cellsL, Value.cells, List.toList_toArray, List.set_cons_zero, List.set_cons_succ, spliceL, List.take_succ_cons, List.take_zero, List.drop_succ_cons, List.drop_zero, List.length_cons, List.length_nil, Nat.reduceAdd, Row.cells, Gr.L, Rep.L, Mem.L, Ans.L] at H
      refine LW.nil ?_
      refine thenE_norm ?_
      exact ⟨rfl, (x0.toNat : Int) % 13, (x1.toNat : Int) % 5, (x2.toNat : Int) % 4, rfl, by omega, by omega, by omega, by omega, by omega, by omega, H⟩
    · try simp only [decide_eq_true_eq, decide_eq_false_iff_not, Bool.and_eq_true, Bool.or_eq_true, Bool.and_eq_false_iff, Bool.or_eq_false_iff, Bool.not_eq_true', Bool.not_eq_false', beq_iff_eq, bne_iff_ne, ne_eq, Decidable.not_not] at hc1
      refine CW.skip ?_
      refine thenE_norm ?_
      exact ⟨rfl, 0, 0, 0, rfl, by omega, by omega, by omega, by omega, by omega, by omega, H⟩
  try clear H
  rintro vs wJ σ ⟨c, s, a, rfl, hc0, hc12, hs0, hs4, ha0, ha3, H⟩
  simp only [setL, keepE, upd_get, ev, Nat.reduceEqDiff, ↓reduceIte]
  refine CW.seq (fun K7 h7 => ?_)
  refine CW.region ?_
  refine r_buildSlice rfl Try.underlying126 Try.sizeOf9 Try.zeroValue9 rfl rfl rfl (by simp only [List.map_cons, List.map_nil, List.toList_toArray, List.foldl_cons, List.foldl_nil, List.replicate_succ, List.replicate_zero, List.set_cons_zero, List.set_cons_succ, upd_get, ev, Nat.reduceEqDiff, ↓reduceIte] <;> rfl) ?_
  intro b6_0 w6_0 hb6_0 hs6_0 hE6_0 hB6_0
  replace H := SH.call H (SH.fromB hE6_0 hb6_0 hs6_0 hB6_0)
  clear hb6_0 hs6_0 hE6_0 hB6_0
  try dsimp only [replC, List.cons_append, List.nil_append, List.append_nil, agg, cellsL, Value.cells, List.toList_toArray, List.set_cons_zero, List.set_cons_succ, spliceL, List.take_succ_cons, List.take_zero, List.drop_succ_cons, List.drop_zero, List.length_cons, List.length_nil, Nat.reduceAdd, Row.cells, Gr.L, Rep.L, Mem.L, Ans.L] at H
  replace H := SH.row (b := b6_0) (xs := ([_, _, _, _, _] : List ByteArray)) (n := 5) (cap := 5) H (by (repeat first | exact At.here | apply At.there); done) (by rfl) (by intro x hx; first | rfl | (simp at hx; done) | (simp only [List.mem_cons, List.not_mem_nil, or_false] at hx; rcases hx with rfl | rfl | rfl | rfl | rfl <;> first | rfl | exact (by first | rfl | assumption | exact Rs.oneC (by first | assumption | exact SH.rsR H (by (repeat first | exact At.here | apply At.there); done) | exact SH.rsO H (by (repeat first | exact At.here | apply At.there); done) | exact (Rs.nil : Rs Non _ _ _)) | (simp only [List.all_cons, List.all_nil, Bool.and_true, Bool.and_eq_true, Row.cells, Gr.L, Rep.L, Mem.L, Ans.L]; (repeat' constructor) <;> first | rfl | assumption | exact Rs.oneC (by first | assumption | exact SH.rsR H (by (repeat first | exact At.here | apply At.there); done) | exact SH.rsO H (by (repeat first | exact At.here | apply At.there); done) | exact (Rs.nil : Rs Non _ _ _)))))) (by rfl) rfl (by decide)
  try dsimp only [replC, List.cons_append, List.nil_append, List.append_nil, agg, cellsL, Value.cells, List.toList_toArray, List.set_cons_zero, List.set_cons_succ, spliceL, List.take_succ_cons, List.take_zero, List.drop_succ_cons, List.drop_zero, List.length_cons, List.length_nil, Nat.reduceAdd, Row.cells, Gr.L, Rep.L, Mem.L, Ans.L] at H
  refine r_assign rfl ?_
  refine LW.nil ?_
  refine thenE_norm (h7 _ _ ?_); clear h7; try clear K7
  refine CW.seq (fun K8 h8 => ?_)
  refine CW.seq (fun K9 h9 => ?_)
  refine CW.region ?_
  refine r_assign rfl ?_
  refine LW.nil ?_
  refine thenE_norm ?_
  refine cut (K := K9) [0, 2, 3, 4, 5] (fun σ => ?_)
  simp only [setL, keepE, upd_get, ev, Nat.reduceEqDiff, ↓reduceIte]
  refine h9 _ _ ?_; clear h9; try clear K9
  refine CW.block ?_
  refine CW.loopR [0, 2, 3, 4] [5] (fun m vs w' => ∃ (i : Nat) (u : Value) (gs : List Gr) (g : Option Nat), vs = [.int .i64 i] ∧ 3 ≤ i ∧ i ≤ 8 ∧ m = 8 - i ∧ wayG gs i ∧ gs.length ≤ 4 ∧ (s = 0 → gs = []) ∧ SH Non Any w w' [.R (Old w) v ns, .B b0_0 50 [.int .i64 0, .int .i64 0, .int .i64 0, .slice none 0 0], .B b1_0 50 [.int .i64 c, .int .i64 s, .int .i64 a, u], .O 9 (.slice (some ⟨b6_0, 0, none⟩) 5 5) five (some b6_0), .O 61 u gs g]) (5) ?_ ?_
  · exact ⟨3, .slice none 0 0, [], none, rfl, by omega, by omega, rfl, wayG_nil, by simp, fun _ => rfl, H.addO (α := Gr) 61⟩
  try clear H
  rintro n1 vs1 wL1 σ ⟨i, u, gs, g, rfl, hi3, hi8, rfl, hway, hg4, hz, H⟩
  simp only [setL, keepE, upd_get, ev, Nat.reduceEqDiff, ↓reduceIte]
  refine CW.seq (fun K10 h10 => ?_)
  refine CW.seq (fun K11 h11 => ?_)
  refine CW.region ?_
  refine r_move rfl ?_
  refine r_move rfl ?_
  first
    | refine r_lenV rfl Try.underlying43 (by simp only [upd_get, ev, Nat.reduceEqDiff, ↓reduceIte] <;> rfl) (by first | assumption | exact SH.rsR H (by (repeat first | exact At.here | apply At.there); done) | exact SH.rsO H (by (repeat first | exact At.here | apply At.there); done) | exact (Rs.nil : Rs Non _ _ _)) ?_
    | refine r_len rfl Try.underlying43 rfl ?_
  refine r_lss rfl rfl rfl ?_
  refine r_move rfl ?_
  refine' LW.grpAnd (n := 3) (ts := [0, 2, 3, 4, 5, 36, 41]) (d := 35) (tj := 32) rfl (fun hg8_5 => ?_) (fun hg8_5 => ?_) (fun σ => ?_)
  rotate_left
  · simp only [List.take_succ_cons, List.take_zero]
    have hg8_5P := hg8_5
    try simp only [decide_eq_true_eq, decide_eq_false_iff_not, Bool.and_eq_true, Bool.or_eq_true, Bool.and_eq_false_iff, Bool.or_eq_false_iff, Bool.not_eq_true', Bool.not_eq_false', beq_iff_eq, bne_iff_ne] at hg8_5P
    refine LW.want rfl rfl hg8_5 ?_
    refine r_move rfl ?_
    refine LW.want rfl rfl hg8_5 ?_
    refine r_lss rfl rfl rfl ?_
    refine r_pickT rfl rfl hg8_5 ?_
    refine LW.nil (thenE_norm ⟨rfl, rfl, rfl⟩)
  · simp only [List.take_succ_cons, List.take_zero]
    refine LW.skip rfl (fun _ e => by cases e; decide) rfl hg8_5 ?_
    refine LW.skip rfl (fun _ e => by cases e; decide) rfl hg8_5 ?_
    refine r_pickF rfl rfl hg8_5 ?_
    refine LW.nil (thenE_norm ⟨rfl, rfl, rfl⟩)
  simp only [setL, keepE, upd_get, ev, Nat.reduceEqDiff, ↓reduceIte]; simp only [List.drop_succ_cons, List.drop_zero]
  refine r_move rfl ?_
  refine' LW.grpAnd (n := 4) (ts := [0, 2, 3, 4, 5, 41]) (d := 40) (tj := 36) rfl (fun hg8_9 => ?_) (fun hg8_9 => ?_) (fun σ => ?_)
  rotate_left
  · simp only [List.take_succ_cons, List.take_zero]
    have hg8_9P := hg8_9
    try simp only [decide_eq_true_eq, decide_eq_false_iff_not, Bool.and_eq_true, Bool.or_eq_true, Bool.and_eq_false_iff, Bool.or_eq_false_iff, Bool.not_eq_true', Bool.not_eq_false', beq_iff_eq, bne_iff_ne] at hg8_9P
    refine LW.want rfl rfl hg8_9 ?_
    refine r_fieldAddrO rfl Try.underlying50 rfl Try.sizeOf3 (by decide) (show _ = 1 from rfl) rfl ?_
    refine LW.want rfl rfl hg8_9 ?_
    refine r_load rfl Try.isAgg3 rfl (by first | exact SH.cellB H (by (repeat first | exact At.here | apply At.there); done) (by rfl) | assumption) ?_
    refine LW.want rfl rfl hg8_9 ?_
    refine r_gtr rfl rfl rfl ?_
    refine r_pickT rfl rfl hg8_9 ?_
    refine LW.nil (thenE_norm ⟨rfl, rfl, rfl⟩)
  · simp only [List.take_succ_cons, List.take_zero]
    refine LW.skip rfl (fun _ e => by cases e; decide) rfl hg8_9 ?_
    refine LW.skip rfl (fun _ e => by cases e; decide) rfl hg8_9 ?_
    refine LW.skip rfl (fun _ e => by cases e; decide) rfl hg8_9 ?_
    refine r_pickF rfl rfl hg8_9 ?_
    refine LW.nil (thenE_norm ⟨rfl, rfl, rfl⟩)
  simp only [setL, keepE, upd_get, ev, Nat.reduceEqDiff, ↓reduceIte]; simp only [List.drop_succ_cons, List.drop_zero]
  refine r_move rfl ?_
  refine' LW.grpAnd (n := 5) (ts := [0, 2, 3, 4, 5]) (d := 46) (tj := 41) rfl (fun hg8_14 => ?_) (fun hg8_14 => ?_) (fun σ => ?_)
  rotate_left
  · simp only [List.take_succ_cons, List.take_zero]
    have hg8_14P := hg8_14
    try simp only [decide_eq_true_eq, decide_eq_false_iff_not, Bool.and_eq_true, Bool.or_eq_true, Bool.and_eq_false_iff, Bool.or_eq_false_iff, Bool.not_eq_true', Bool.not_eq_false', beq_iff_eq, bne_iff_ne] at hg8_14P
    refine LW.want rfl rfl hg8_14 ?_
    refine r_fieldAddrO rfl Try.underlying50 rfl Try.sizeOf48 (by decide) (show _ = 3 from rfl) rfl ?_
    refine LW.want rfl rfl hg8_14 ?_
    refine r_load rfl Try.isAgg48 rfl (by first | exact SH.cellB H (by (repeat first | exact At.here | apply At.there); done) (by rfl) | assumption) ?_
    refine LW.want rfl rfl hg8_14 ?_
    first
      | refine r_lenV rfl Try.underlying48 (by simp only [upd_get, ev, Nat.reduceEqDiff, ↓reduceIte] <;> rfl) (by first | assumption | exact SH.rsR H (by (repeat first | exact At.here | apply At.there); done) | exact SH.rsO H (by (repeat first | exact At.here | apply At.there); done) | exact (Rs.nil : Rs Non _ _ _)) ?_
      | refine r_len rfl Try.underlying48 rfl ?_
    refine LW.want rfl rfl hg8_14 ?_
    refine r_lss rfl rfl rfl ?_
    refine r_pickT rfl rfl hg8_14 ?_
    refine LW.nil (thenE_norm ⟨rfl, rfl, rfl⟩)
  · simp only [List.take_succ_cons, List.take_zero]
    refine LW.skip rfl (fun _ e => by cases e; decide) rfl hg8_14 ?_
    refine LW.skip rfl (fun _ e => by cases e; decide) rfl hg8_14 ?_
    refine LW.skip rfl (fun _ e => by cases e; decide) rfl hg8_14 ?_
    refine LW.skip rfl (fun _ e => by cases e; decide) rfl hg8_14 ?_
    refine r_pickF rfl rfl hg8_14 ?_
    refine LW.nil (thenE_norm ⟨rfl, rfl, rfl⟩)
  simp only [setL, keepE, upd_get, ev, Nat.reduceEqDiff, ↓reduceIte]; simp only [List.drop_succ_cons, List.drop_zero]
  refine LW.nil ?_
  refine thenE_norm (h11 _ _ ?_); clear h11; try clear K11
  refine CW.cond rfl (fun hc2 => ?_) (fun hc2 => ?_)
  · try simp only [decide_eq_true_eq, decide_eq_false_iff_not, Bool.and_eq_true, Bool.or_eq_true, Bool.and_eq_false_iff, Bool.or_eq_false_iff, Bool.not_eq_true', Bool.not_eq_false', beq_iff_eq, bne_iff_ne, ne_eq, Decidable.not_not] at hc2
    refine CW.skip ?_
    refine thenE_norm (h10 _ _ ?_); clear h10; try clear K10
    refine CW.seq (fun K12 h12 => ?_)
    refine CW.block ?_
    refine CW.seq (fun K13 h13 => ?_)
    obtain ⟨x, hx⟩ := get_of_lt (show i < ns.length by omega)
    have hxl := x.toNat_lt
    obtain ⟨y, hy⟩ := get_of_lt (show i - 3 < five.length by show i - 3 < 5; omega)
    have hy' : five[((i : Int) - 3).toNat]? = some y := by rw [show ((i : Int) - 3).toNat = i - 3 by omega]; exact hy
    have h5 : five.length = 5 := rfl
    refine CW.region ?_
    refine r_move rfl ?_
    refine r_move rfl ?_
    refine r_indexAddrV rfl Try.underlying43 (by simp only [upd_get, ev, Nat.reduceEqDiff, ↓reduceIte] <;> rfl) rfl (by first | assumption | exact SH.rsR H (by (repeat first | exact At.here | apply At.there); done) | exact SH.rsO H (by (repeat first | exact At.here | apply At.there); done) | exact (Rs.nil : Rs Non _ _ _)) (by exact Try.sizeOf5) (by omega) (by omega) ?_
    refine r_load rfl Try.isAgg5 rfl (by first | exact Rs.cell (by first | assumption | exact SH.rsR H (by (repeat first | exact At.here | apply At.there); done) | exact SH.rsO H (by (repeat first | exact At.here | apply At.there); done) | exact (Rs.nil : Rs Non _ _ _)) (by assumption) (by rfl) | exact Rs.cell0 (by first | assumption | exact SH.rsR H (by (repeat first | exact At.here | apply At.there); done) | exact SH.rsO H (by (repeat first | exact At.here | apply At.there); done) | exact (Rs.nil : Rs Non _ _ _)) (by assumption) (by rfl) | assumption) ?_
    refine r_rem rfl rfl rfl (by omega) (by omega) (wr_u8 (by omega) (by omega)) ?_
    refine r_eql rfl rfl rfl ?_
    refine LW.nil ?_
    refine thenE_norm (h13 _ _ ?_); clear h13; try clear K13
    refine CW.cond rfl (fun hc3 => ?_) (fun hc3 => ?_)
    · try simp only [decide_eq_true_eq, decide_eq_false_iff_not, Bool.and_eq_true, Bool.or_eq_true, Bool.and_eq_false_iff, Bool.or_eq_false_iff, Bool.not_eq_true', Bool.not_eq_false', beq_iff_eq, bne_iff_ne, ne_eq, Decidable.not_not] at hc3
      refine CW.drawP [0, 2, 3] [17] H (by dsimp only [pickC, nthC] <;> rfl) (by repeat first | exact List.Sublist.refl _ | exact List.nil_sublist _ | apply List.Sublist.cons_cons | apply List.Sublist.cons) (by kernel_rfl) rfl ?_
      clear H
      intro w11d H
      refine DL.take (i := 0) [0, 1, 15, 16, 17] rfl (by kernel_rfl) (by kernel_rfl) (by kernel_rfl) (by kernel_rfl) rfl rfl (fun u H => x_fieldAddrO Try.underlying50 rfl Try.sizeOf48 (by decide) (show _ = 3 from rfl) rfl) (SH.sub H (by repeat first | exact List.Sublist.refl _ | exact List.nil_sublist _ | apply List.Sublist.cons_cons | apply List.Sublist.cons)) ?_
      refine DL.take (i := 1) [1, 15, 16, 17] rfl (by kernel_rfl) (by kernel_rfl) (by kernel_rfl) (by kernel_rfl) rfl rfl (fun u H => x_load Try.isAgg48 rfl (by first | exact SH.cellB H (by (repeat first | exact At.here | apply At.there); done) (by rfl) | assumption)) (SH.sub H (by repeat first | exact List.Sublist.refl _ | exact List.nil_sublist _ | apply List.Sublist.cons_cons | apply List.Sublist.cons)) ?_
      refine DL.take (i := 2) [2, 5, 6, 13, 14, 15, 16, 17] rfl (by kernel_rfl) (by kernel_rfl) (by kernel_rfl) (by kernel_rfl) rfl rfl (fun u H => x_move ) (SH.sub H (by repeat first | exact List.Sublist.refl _ | exact List.nil_sublist _ | apply List.Sublist.cons_cons | apply List.Sublist.cons)) ?_
      refine DL.take (i := 3) [3, 4, 5, 6, 13, 14, 15, 16, 17] rfl (by kernel_rfl) (by kernel_rfl) (by kernel_rfl) (by kernel_rfl) rfl rfl (fun u H => x_move ) (SH.sub H (by repeat first | exact List.Sublist.refl _ | exact List.nil_sublist _ | apply List.Sublist.cons_cons | apply List.Sublist.cons)) ?_
      refine DL.take (i := 4) [4, 5, 6, 13, 14, 15, 16, 17] rfl (by kernel_rfl) (by kernel_rfl) (by kernel_rfl) (by kernel_rfl) rfl rfl (fun u H => x_sub rfl rfl (wr_i64 (by omega) (by omega))) (SH.sub H (by repeat first | exact List.Sublist.refl _ | exact List.nil_sublist _ | apply List.Sublist.cons_cons | apply List.Sublist.cons)) ?_
      refine DL.take (i := 5) [5, 6, 13, 14, 15, 16, 17] rfl (by kernel_rfl) (by kernel_rfl) (by kernel_rfl) (by kernel_rfl) rfl rfl (fun u H => x_indexAddrV Try.underlying126 (by simp only [upd_get, ev, Nat.reduceEqDiff, ↓reduceIte] <;> rfl) rfl (by first | assumption | exact SH.rsR H (by (repeat first | exact At.here | apply At.there); done) | exact SH.rsO H (by (repeat first | exact At.here | apply At.there); done) | exact (Rs.nil : Rs Non _ _ _)) (by exact Try.sizeOf9) (by omega) (by omega)) (SH.sub H (by repeat first | exact List.Sublist.refl _ | exact List.nil_sublist _ | apply List.Sublist.cons_cons | apply List.Sublist.cons)) ?_
      refine DL.take (i := 6) [6, 13, 14, 15, 16, 17] rfl (by kernel_rfl) (by kernel_rfl) (by kernel_rfl) (by kernel_rfl) rfl rfl (fun u H => x_load Try.isAgg9 rfl (by first | exact Rs.cell (by first | assumption | exact SH.rsR H (by (repeat first | exact At.here | apply At.there); done) | exact SH.rsO H (by (repeat first | exact At.here | apply At.there); done) | exact (Rs.nil : Rs Non _ _ _)) (by assumption) (by rfl) | exact Rs.cell0 (by first | assumption | exact SH.rsR H (by (repeat first | exact At.here | apply At.there); done) | exact SH.rsO H (by (repeat first | exact At.here | apply At.there); done) | exact (Rs.nil : Rs Non _ _ _)) (by assumption) (by rfl) | assumption)) (SH.sub H (by repeat first | exact List.Sublist.refl _ | exact List.nil_sublist _ | apply List.Sublist.cons_cons | apply List.Sublist.cons)) ?_
      refine DL.take (i := 7) [7, 9, 10, 11, 12, 13, 14, 15, 16, 17] rfl (by kernel_rfl) (by kernel_rfl) (by kernel_rfl) (by kernel_rfl) rfl rfl (fun u H => x_move ) (SH.sub H (by repeat first | exact List.Sublist.refl _ | exact List.nil_sublist _ | apply List.Sublist.cons_cons | apply List.Sublist.cons)) ?_
      refine DL.take (i := 8) [8, 9, 10, 11, 12, 13, 14, 15, 16, 17] rfl (by kernel_rfl) (by kernel_rfl) (by kernel_rfl) (by kernel_rfl) rfl rfl (fun u H => x_move ) (SH.sub H (by repeat first | exact List.Sublist.refl _ | exact List.nil_sublist _ | apply List.Sublist.cons_cons | apply List.Sublist.cons)) ?_
      refine DL.take (i := 9) [9, 10, 11, 12, 13, 14, 15, 16, 17] rfl (by kernel_rfl) (by kernel_rfl) (by kernel_rfl) (by kernel_rfl) rfl rfl (fun u H => x_indexAddrV Try.underlying43 (by simp only [upd_get, ev, Nat.reduceEqDiff, ↓reduceIte] <;> rfl) rfl (by first | assumption | exact SH.rsR H (by (repeat first | exact At.here | apply At.there); done) | exact SH.rsO H (by (repeat first | exact At.here | apply At.there); done) | exact (Rs.nil : Rs Non _ _ _)) (by exact Try.sizeOf5) (by omega) (by omega)) (SH.sub H (by repeat first | exact List.Sublist.refl _ | exact List.nil_sublist _ | apply List.Sublist.cons_cons | apply List.Sublist.cons)) ?_
      refine DL.take (i := 10) [10, 11, 12, 13, 14, 15, 16, 17] rfl (by kernel_rfl) (by kernel_rfl) (by kernel_rfl) (by kernel_rfl) rfl rfl (fun u H => x_load Try.isAgg5 rfl (by first | exact Rs.cell (by first | assumption | exact SH.rsR H (by (repeat first | exact At.here | apply At.there); done) | exact SH.rsO H (by (repeat first | exact At.here | apply At.there); done) | exact (Rs.nil : Rs Non _ _ _)) (by assumption) (by rfl) | exact Rs.cell0 (by first | assumption | exact SH.rsR H (by (repeat first | exact At.here | apply At.there); done) | exact SH.rsO H (by (repeat first | exact At.here | apply At.there); done) | exact (Rs.nil : Rs Non _ _ _)) (by assumption) (by rfl) | assumption)) (SH.sub H (by repeat first | exact List.Sublist.refl _ | exact List.nil_sublist _ | apply List.Sublist.cons_cons | apply List.Sublist.cons)) ?_
      refine DL.take (i := 11) [11, 12, 13, 14, 15, 16, 17] rfl (by kernel_rfl) (by kernel_rfl) (by kernel_rfl) (by kernel_rfl) rfl rfl (fun u H => x_convI Try.underlying5 Try.underlying3 rfl (wr_i64 (by omega) (by omega))) (SH.sub H (by repeat first | exact List.Sublist.refl _ | exact List.nil_sublist _ | apply List.Sublist.cons_cons | apply List.Sublist.cons)) ?_
      refine DL.take (i := 12) [12, 13, 14, 15, 16, 17] rfl (by kernel_rfl) (by kernel_rfl) (by kernel_rfl) (by kernel_rfl) rfl rfl (fun u H => x_add rfl rfl (wr_i64 (by omega) (by omega))) (SH.sub H (by repeat first | exact List.Sublist.refl _ | exact List.nil_sublist _ | apply List.Sublist.cons_cons | apply List.Sublist.cons)) ?_
      refine DL.take (i := 13) [13, 14, 15, 16, 17] rfl (by kernel_rfl) (by kernel_rfl) (by kernel_rfl) (by kernel_rfl) rfl rfl (fun u H => x_buildQ Try.underlying61 Try.zeroValue61 rfl (pl := [(0, 1), (1, 1)]) (by intro w; simp [go_sem]) (qs := [(0, [_]), (1, [_])]) (cs := [_, _]) ⟨rfl, cells_one (by simp only [upd_get, ev, Nat.reduceEqDiff, ↓reduceIte] <;> rfl) (by first | rfl | exact Rs.oneC (by first | assumption | exact SH.rsR H (by (repeat first | exact At.here | apply At.there); done) | exact SH.rsO H (by (repeat first | exact At.here | apply At.there); done) | exact (Rs.nil : Rs Non _ _ _))), rfl, cells_one (by simp only [upd_get, ev, Nat.reduceEqDiff, ↓reduceIte] <;> rfl) (by first | rfl | exact Rs.oneC (by first | assumption | exact SH.rsR H (by (repeat first | exact At.here | apply At.there); done) | exact SH.rsO H (by (repeat first | exact At.here | apply At.there); done) | exact (Rs.nil : Rs Non _ _ _))), trivial⟩ rfl) (SH.sub H (by repeat first | exact List.Sublist.refl _ | exact List.nil_sublist _ | apply List.Sublist.cons_cons | apply List.Sublist.cons)) ?_
      refine DL.one (i := 14) (by kernel_rfl) rfl rfl ?_
      refine r_buildSliceA (vs := [_]) rfl Try.underlying48 Try.sizeOf61 Try.zeroValue61 rfl rfl rfl rfl (by simp only [List.map_cons, List.map_nil, List.toList_toArray, numbered, Nat.reduceAdd, upd_get, ev, Nat.reduceEqDiff, ↓reduceIte] <;> rfl) rfl (by intro v hv; simp only [List.mem_cons, List.not_mem_nil, or_false] at hv; rcases hv with rfl <;> rfl) ?_
      intro b11_14 w11_14 hb11_14 hs11_14 hE11_14 hB11_14
      replace H := SH.call H (SH.fromB hE11_14 hb11_14 hs11_14 hB11_14)
      clear hb11_14 hs11_14 hE11_14 hB11_14
      try dsimp only [replC, List.cons_append, List.nil_append, List.append_nil, agg, cellsL, Value.cells, List.toList_toArray, List.set_cons_zero, List.set_cons_succ, spliceL, List.take_succ_cons, List.take_zero, List.drop_succ_cons, List.drop_zero, List.length_cons, List.length_nil, Nat.reduceAdd, Row.cells, Gr.L, Rep.L, Mem.L, Ans.L] at H
      replace H := SH.row (b := b11_14) (xs := ([⟨_, _⟩] : List Gr)) (n := 1) (cap := 1) H (by (repeat first | exact At.here | apply At.there); done) (by simp only [flat, List.flatMap_cons, List.flatMap_nil, cellsL, agg, List.append_nil, List.cons_append, List.nil_append, List.toList_toArray, Row.cells, Gr.L, Rep.L, Mem.L, Ans.L] <;> rfl) (by intro x hx; first | rfl | (simp at hx; done) | (simp only [List.mem_cons, List.not_mem_nil, or_false] at hx; rcases hx with rfl <;> first | rfl | exact (by first | rfl | assumption | exact Rs.oneC (by first | assumption | exact SH.rsR H (by (repeat first | exact At.here | apply At.there); done) | exact SH.rsO H (by (repeat first | exact At.here | apply At.there); done) | exact (Rs.nil : Rs Non _ _ _)) | (simp only [List.all_cons, List.all_nil, Bool.and_true, Bool.and_eq_true, Row.cells, Gr.L, Rep.L, Mem.L, Ans.L]; (repeat' constructor) <;> first | rfl | assumption | exact Rs.oneC (by first | assumption | exact SH.rsR H (by (repeat first | exact At.here | apply At.there); done) | exact SH.rsO H (by (repeat first | exact At.here | apply At.there); done) | exact (Rs.nil : Rs Non _ _ _)))))) (by rfl) rfl (by decide)
      try dsimp only [replC, List.cons_append, List.nil_append, List.append_nil, agg, cellsL, Value.cells, List.toList_toArray, List.set_cons_zero, List.set_cons_succ, spliceL, List.take_succ_cons, List.take_zero, List.drop_succ_cons, List.drop_zero, List.length_cons, List.length_nil, Nat.reduceAdd, Row.cells, Gr.L, Rep.L, Mem.L, Ans.L] at H
      refine LW.nil (thenE_norm ⟨fun _ => (SH.sub H (by repeat first | exact List.Sublist.refl _ | exact List.nil_sublist _ | apply List.Sublist.cons_cons | apply List.Sublist.cons)), ?_⟩)
      refine DL.one (i := 15) (by kernel_rfl) rfl rfl ?_
      refine s_append H rfl Try.underlying48 Try.underlying48 Try.type61 rfl (by simp only [upd_get, ev, Nat.reduceEqDiff, ↓reduceIte] <;> rfl) (by simp only [upd_get, ev, Nat.reduceEqDiff, ↓reduceIte] <;> rfl) (by (repeat first | exact At.here | apply At.there); done) (by first | assumption | exact SH.rsR H (by (repeat first | exact At.here | apply At.there); done) | exact SH.rsO H (by (repeat first | exact At.here | apply At.there); done) | exact (Rs.nil : Rs Non _ _ _)) (by rfl) (by rfl) (by first | omega | (simp only [Try.t61, List.length_append, List.length_cons, List.length_nil, List.length_map, maxLen]; omega) | (simp [Try.t61, maxLen]; omega)) (by first | omega | (simp only [Try.t61, List.length_append, List.length_cons, List.length_nil, List.length_map, maxLen]; omega) | (simp [Try.t61, maxLen]; omega)) ?_
      clear H
      intro v11_15 w11_15 g11_15 H hN11_15
      try dsimp only [replC, List.cons_append, List.nil_append, List.append_nil] at H
      refine LW.nil (thenE_norm ⟨fun _ => (SH.sub H (by repeat first | exact List.Sublist.refl _ | exact List.nil_sublist _ | apply List.Sublist.cons_cons | apply List.Sublist.cons)), ?_⟩)
      refine DL.take (i := 16) [16, 17] rfl (by kernel_rfl) (by kernel_rfl) (by kernel_rfl) (by kernel_rfl) rfl rfl (fun u H => x_fieldAddrO Try.underlying50 rfl Try.sizeOf48 (by decide) (show _ = 3 from rfl) rfl) (SH.sub H (by repeat first | exact List.Sublist.refl _ | exact List.nil_sublist _ | apply List.Sublist.cons_cons | apply List.Sublist.cons)) ?_
      refine DL.one (i := 17) (by kernel_rfl) rfl rfl ?_
      refine s_store H Try.sizeOf48 rfl (by simp only [upd_get, ev, Nat.reduceEqDiff, ↓reduceIte] <;> rfl) (by first | rfl | assumption | exact Rs.oneC (by first | assumption | exact SH.rsR H (by (repeat first | exact At.here | apply At.there); done) | exact SH.rsO H (by (repeat first | exact At.here | apply At.there); done) | exact (Rs.nil : Rs Non _ _ _)) | (simp only [List.all_cons, List.all_nil, Bool.and_true, Bool.and_eq_true, Row.cells, Gr.L, Rep.L, Mem.L, Ans.L]; (repeat' constructor) <;> first | rfl | assumption | exact Rs.oneC (by first | assumption | exact SH.rsR H (by (repeat first | exact At.here | apply At.there); done) | exact SH.rsO H (by (repeat first | exact At.here | apply At.there); done) | exact (Rs.nil : Rs Non _ _ _)))) (by (repeat first | exact At.here | apply At.there); done) (by first | (simp; done) | decide | omega) ?_
      clear H
      intro w11_17 H
      try dsimp only [replC, List.cons_append, List.nil_append, List.append_nil, agg, cellsL, Value.cells, List.toList_toArray, List.set_cons_zero, List.set_cons_succ, spliceL, List.take_succ_cons, List.take_zero, List.drop_succ_cons, List.drop_zero, List.length_cons, List.length_nil, Nat.reduceAdd, Row.cells, Gr.L, Rep.L, Mem.L, Ans.L] at H
      refine LW.nil (thenE_norm ⟨fun h => Bool.noConfusion (show true = false from h), ?_⟩)
      refine DL.done (by kernel_rfl) ?_
      refine blockE_norm ?_
      refine thenE_norm (h12 _ _ ?_); clear h12; try clear K12
      refine CW.region ?_
      refine r_move rfl ?_
      refine r_add rfl rfl rfl (wr_i64 (by omega) (by omega)) ?_
      refine r_assign rfl ?_
      refine LW.nil ?_
      refine thenE_norm ⟨rfl, ?_⟩
      exact ⟨8 - (i + 1), by omega, i + 1, _, _, _, rfl, by omega, by omega, rfl, wayG_snoc hway hi3 hy (t := 1 + (x.toNat : Int)) (by omega) (by omega), by rw [List.length_append, List.length_singleton]; omega, fun h => by omega, SH.sel H [0, 1, 2, 3, 4] (by decide) rfl⟩
    · try simp only [decide_eq_true_eq, decide_eq_false_iff_not, Bool.and_eq_true, Bool.or_eq_true, Bool.and_eq_false_iff, Bool.or_eq_false_iff, Bool.not_eq_true', Bool.not_eq_false', beq_iff_eq, bne_iff_ne, ne_eq, Decidable.not_not] at hc3
      refine CW.skip ?_
      refine blockE_norm ?_
      refine thenE_norm (h12 _ _ ?_); clear h12; try clear K12
      refine CW.region ?_
      refine r_move rfl ?_
      refine r_add rfl rfl rfl (wr_i64 (by omega) (by omega)) ?_
      refine r_assign rfl ?_
      refine LW.nil ?_
      refine thenE_norm ⟨rfl, ?_⟩
      exact ⟨8 - (i + 1), by omega, i + 1, _, _, _, rfl, by omega, by omega, rfl, wayG_up hway, hg4, hz, H⟩
  · try simp only [decide_eq_true_eq, decide_eq_false_iff_not, Bool.and_eq_true, Bool.or_eq_true, Bool.and_eq_false_iff, Bool.or_eq_false_iff, Bool.not_eq_true', Bool.not_eq_false', beq_iff_eq, bne_iff_ne, ne_eq, Decidable.not_not] at hc2
    refine CW.exit (thenE_exit (thenE_exit (blockE_hit ?_)))
    refine thenE_norm (h8 _ _ ?_); clear h8; try clear K8
    refine CW.seq (fun K14 h14 => ?_)
    refine CW.region ?_
    refine r_loadA rfl Try.isAgg50 Try.sizeOf50 rfl (by first | exact SH.cells H (by (repeat first | exact At.here | apply At.there); done)) (by rfl) ?_
    refine s_storeA H Try.sizeOf50 rfl (by simp only [upd_get, ev, Nat.reduceEqDiff, ↓reduceIte] <;> rfl) (by simp only [cellsL, agg, List.toList_toArray, Row.cells, Gr.L, Rep.L, Mem.L, Ans.L] <;> rfl) (by rfl) (by first | rfl | assumption | exact Rs.oneC (by first | assumption | exact SH.rsR H (by (repeat first | exact At.here | apply At.there); done) | exact SH.rsO H (by (repeat first | exact At.here | apply At.there); done) | exact (Rs.nil : Rs Non _ _ _)) | (simp only [List.all_cons, List.all_nil, Bool.and_true, Bool.and_eq_true, Row.cells, Gr.L, Rep.L, Mem.L, Ans.L]; (repeat' constructor) <;> first | rfl | assumption | exact Rs.oneC (by first | assumption | exact SH.rsR H (by (repeat first | exact At.here | apply At.there); done) | exact SH.rsO H (by (repeat first | exact At.here | apply At.there); done) | exact (Rs.nil : Rs Non _ _ _)))) (by (repeat first | exact At.here | apply At.there); done) (by first | (simp; done) | decide | (show _ ≤ _; decide)) ?_
    clear H
    intro w12_1 H
    try dsimp only [replC, List.cons_append, List.nil_append, List.append_nil, agg, cellsL, Value.cells, List.toList_toArray, List.set_cons_zero, List.set_cons_succ, spliceL, List.take_succ_cons, List.take_zero, List.drop_succ_cons, List.drop_zero, List.length_cons, List.length_nil, Nat.reduceAdd, Row.cells, Gr.L, Rep.L, Mem.L, Ans.L] at H
    refine LW.nil ?_
    refine thenE_norm (h14 _ _ ?_); clear h14; try clear K14
    refine CW.ret (retC1 Try.results40 (by simp only [upd_get, ev, Nat.reduceEqDiff, ↓reduceIte] <;> rfl) Try.isAgg50 Try.sizeOf50 (by exact SH.cells H (by (repeat first | exact At.here | apply At.there); done)) (by rfl) ?_)
    have hmay : mayRep c s a gs = true := by
      rw [mayRep, hway.1, Bool.and_true]
      refine decide_eq_true ⟨hc0, hc12, hs0, by omega, ha0, ha3, by omega, ?_⟩
      by_cases hs : s = 0
      · right; rw [hz hs]; rfl
      · left; exact hs
    exact ⟨c, s, a, u, gs, g, rfl, hmay, wayG_small hway, SH.give H (by repeat first | exact List.Sublist.refl _ | exact List.nil_sublist _ | apply List.Sublist.cons_cons | apply List.Sublist.cons) ⟨trivial, trivial⟩⟩
end Go.Proofs.Ytlfbofnfhhddbaa
