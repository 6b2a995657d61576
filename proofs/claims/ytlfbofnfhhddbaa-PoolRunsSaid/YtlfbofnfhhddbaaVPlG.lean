/-
  The walks of layer 19's laws: who came first is ready first.
-/
import Derived.Test.YtlfbofnfhhddbaaVPlF
namespace Go.Proofs.Ytlfbofnfhhddbaa
set_option linter.unusedSimpArgs false
set_option linter.unusedVariables false
set_option maxRecDepth 20000
open Go.V Go.RowKit Go.ChangeShapes Go.WideShapes

/-- A queue of requests, those ahead of a place marked, all come by some time. -/
def Fair (es : List Ent) (came : List Rq) (at_ : Nat) (most : Int) : Prop :=
  es.map Ent.req = came ∧ (came.map Rq.client).Nodup ∧ ∀ i e, es[i]? = some e → e.marked = decide (i < at_) ∧ e.came ≤ most
theorem Fair.len {es : List Ent} {came : List Rq} {a : Nat} {most : Int} (h : Fair es came a most) : es.length = came.length := by rw [← h.1, List.length_map]
theorem waitL_drop : ∀ {es : List Ent} {a : Nat}, (∀ i e, es[i]? = some e → e.marked = decide (i < a)) → waitL es = es.drop a
  | [], a, _ => by simp [waitL]
  | e :: es, 0, h => by
    rw [waitL, List.drop_zero, List.filter_eq_self]
    intro x hx
    obtain ⟨i, hi⟩ := List.mem_iff_getElem?.1 hx
    simp [h i x hi]
  | e :: es, a + 1, h => by
    have h0 := h 0 e rfl
    have ih := waitL_drop (es := es) (a := a) (fun i x hx => by
      have := h (i + 1) x (by simpa using hx)
      rw [this]; congr 1; simp)
    rw [waitL] at ih ⊢
    rw [List.filter_cons, if_neg (by simp [h0]), ih]; rfl
theorem Fair.ready {es : List Ent} {came : List Rq} {a : Nat} {most now : Int} (h : Fair es came a most) (hn : most ≤ now) (h0 : 0 ≤ now) (h1 : now ≤ 2305843009213693952) : readyM es now 0 = (came.drop a).take 3 := by
  have hw := waitL_drop (fun i e he => (h.2.2 i e he).1)
  have hr : readyL (waitL es) = (came.drop a).take 3 := by rw [hw, readyL, ← h.1, List.map_drop]
  have hcut : cutM now = now := by unfold cutM; omega
  rw [readyM, hr, hcut]
  by_cases hc : ((came.drop a).take 3).length = 3 ∨ 0 < ((came.drop a).take 3).length ∧ 0 ≤ now - firstM (waitL es)
  · rw [if_pos hc]
  · rw [if_neg hc]
    have hl : ((came.drop a).take 3).length = 0 := by
      rcases Nat.eq_zero_or_pos ((came.drop a).take 3).length with h2 | h2
      · exact h2
      · exfalso
        apply hc
        right
        refine ⟨h2, ?_⟩
        have hla : a < es.length := by
          have := h.len
          simp at h2; omega
        rw [hw, List.drop_eq_getElem_cons hla]
        have := (h.2.2 a es[a] (List.getElem?_eq_getElem hla)).2
        rw [firstM, List.map_cons, List.headD_cons]; omega
    exact (List.eq_nil_of_length_eq_zero hl).symm
theorem Fair.find {es : List Ent} {came : List Rq} {a j : Nat} {most : Int} {r : Rq} (h : Fair es came a most) (hr : came[j]? = some r) : ∃ e, es[j]? = some e ∧ findM (isR r.client r.seq) es = j := by
  have hj : (es.map Ent.req)[j]? = some r := by rw [h.1]; exact hr
  rw [List.getElem?_map] at hj
  obtain ⟨e, he, her⟩ := Option.map_eq_some_iff.1 hj
  refine ⟨e, he, ?_⟩
  rcases find_cases (isR r.client r.seq) es with ⟨hf, hfi⟩ | ⟨i, x, hf, hx, hpx, hfi, -⟩
  · rw [List.find?_eq_none] at hfi
    exact absurd (by simp [isR, her]) (hfi e (List.mem_of_getElem? he))
  · rw [hf]
    have h1 : (came.map Rq.client)[i]? = some r.client := by
      rw [← h.1, List.map_map, List.getElem?_map, hx]
      simp [isR] at hpx
      simp [hpx.1]
    have h2 : (came.map Rq.client)[j]? = some r.client := by rw [List.getElem?_map, hr]; rfl
    have hi := lt_of_get h1
    have := (List.getElem_inj (h₀ := hi) (h₁ := lt_of_get h2) h.2.1).1 (by
      rw [List.getElem?_eq_getElem hi] at h1
      rw [List.getElem?_eq_getElem (lt_of_get h2)] at h2
      exact (Option.some.inj h1).trans (Option.some.inj h2).symm)
    omega
theorem Fair.one {es : List Ent} {came : List Rq} {a : Nat} {most : Int} {r : Rq} (slot : Int) (h : Fair es came a most) (hr : came[a]? = some r) : Fair (markOne slot es r) came (a + 1) most := by
  obtain ⟨e, he, hf⟩ := h.find hr
  rw [markOne, hf, if_pos (by omega), Int.toNat_natCast, modify_set _ he]
  have hl := lt_of_get he
  refine ⟨?_, h.2.1, fun i x hx => ?_⟩
  · rw [List.map_set, ← h.1]
    apply List.ext_getElem?
    intro i
    rw [List.getElem?_set]
    split
    · rename_i h2; subst h2
      have e0 : es[a] = e := by rw [List.getElem?_eq_getElem hl] at he; exact Option.some.inj he
      simp [hl, markE, e0]
    · rfl
  · rw [List.getElem?_set] at hx
    split at hx
    · rename_i h2; subst h2
      simp [hl] at hx
      subst hx
      have := (h.2.2 a e he).2
      exact ⟨by simp [markE], this⟩
    · rename_i h2
      obtain ⟨h3, h4⟩ := h.2.2 i x hx
      refine ⟨?_, h4⟩
      rw [h3, decide_eq_decide]; omega
theorem Fair.many {came : List Rq} {most : Int} (slot : Int) : ∀ (m : Nat) {es : List Ent} {a : Nat}, Fair es came a most → Fair (((came.drop a).take m).foldl (markOne slot) es) came (min (a + m) (max a came.length)) most
  | 0, es, a, h => by simp only [List.take_zero, List.foldl_nil]; rw [show min (a + 0) (max a came.length) = a from by omega]; exact h
  | m + 1, es, a, h => by
    by_cases ha : a < came.length
    · rw [List.drop_eq_getElem_cons ha, List.take_succ_cons, List.foldl_cons]
      have := Fair.many slot m (h.one slot (List.getElem?_eq_getElem ha))
      rw [show min (a + (m + 1)) (max a came.length) = min (a + 1 + m) (max (a + 1) came.length) from by omega]
      exact this
    · rw [List.drop_eq_nil_of_le (by omega), List.take_nil, List.foldl_nil, show min (a + (m + 1)) (max a came.length) = a from by omega]; exact h
theorem Fair.mark {es : List Ent} {came : List Rq} {a : Nat} {most slot : Int} (h : Fair es came a most) (ha : a ≤ came.length) (hs : 1 ≤ slot) : Fair (markM es slot ((came.drop a).take 3)) came (min (a + 3) came.length) most := by
  rw [markM, if_neg (by omega)]
  have := h.many slot 3
  rwa [show min (a + 3) (max a came.length) = min (a + 3) came.length from by omega] at this
theorem Fair.clear {es : List Ent} {came : List Rq} {a : Nat} {most : Int} (h : Fair es came a most) : Fair (es.map clearE) came 0 most := by
  refine ⟨by rw [List.map_map, ← h.1]; rfl, h.2.1, fun i e he => ?_⟩
  rw [List.getElem?_map] at he
  obtain ⟨x, hx, rfl⟩ := Option.map_eq_some_iff.1 he
  exact ⟨by simp [clearE], (h.2.2 i x hx).2⟩
theorem Fair.snoc {es : List Ent} {came : List Rq} {most most2 t : Int} {r : Rq} (h : Fair es came 0 most) (hr : r.client ∉ came.map Rq.client) (hm : most ≤ most2) (ht : cutM t ≤ most2) : Fair (es ++ [newE r t]) (came ++ [r]) 0 most2 := by
  refine ⟨by rw [List.map_append, h.1]; rfl, ?_, fun i e he => ?_⟩
  · rw [List.map_append, List.nodup_append]
    exact ⟨h.2.1, by simp, fun x hx y hy => by simp at hy; subst hy; rintro rfl; exact hr hx⟩
  · rw [List.getElem?_append] at he
    split at he
    · obtain ⟨h1, h2⟩ := h.2.2 i e he
      exact ⟨h1, by omega⟩
    · have : e = newE r t := by
        rcases hi : i - es.length with _ | n
        · rw [hi] at he; simpa using he.symm
        · rw [hi] at he; simp at he
      subst this
      exact ⟨by simp [newE], ht⟩
theorem Fair.has {es : List Ent} {came : List Rq} {most : Int} {c : Int} (h : Fair es came 0 most) (hall : ∀ r ∈ came, r = rO r.client 1) : hasM es c 1 = decide (c ∈ came.map Rq.client) := by
  rw [hasM, Bool.eq_iff_iff, List.any_eq_true, decide_eq_true_eq]
  constructor
  · rintro ⟨e, he, h2⟩
    rw [← h.1, List.map_map]
    simp [isR] at h2
    exact List.mem_map.2 ⟨e, he, h2.1⟩
  · intro hm
    obtain ⟨r, hr, rfl⟩ := List.mem_map.1 hm
    rw [← h.1] at hr
    obtain ⟨e, he, rfl⟩ := List.mem_map.1 hr
    have := hall e.req (by rw [← h.1]; exact List.mem_map_of_mem he)
    exact ⟨e, he, by rw [isR, this]; simp [rO]⟩
theorem Fair.add {es : List Ent} {came : List Rq} {most : Int} {c t : Int} (h : Fair es came 0 most) (h0 : 0 ≤ c) (h1 : c < 8) (hc : c ∉ came.map Rq.client) (hl : came.length < 6) : addM es (rO c 1) t = (es ++ [newE (rO c 1) t], 0) := by
  have hf : es.find? (isC (rO c 1).client) = none := by
    rw [List.find?_eq_none]
    intro e he h2
    rw [isC, decide_eq_true_eq] at h2
    apply hc
    rw [← h.1, List.map_map]
    exact List.mem_map.2 ⟨e, he, h2⟩
  rw [addM, if_pos (rO_may h0 h1 (by decide) (by decide)), hf]
  dsimp only
  rw [if_neg (by rw [h.len]; omega)]
theorem Fair.nil (most : Int) : Fair [] [] 0 most := ⟨rfl, by simp, fun i e h => by simp at h⟩
theorem drop_take3 {α : Type} (xs : List α) (a : Nat) : (xs.take (a + min 3 (xs.length - a))).drop a = (xs.drop a).take 3 := by
  rw [List.drop_take, show a + min 3 (xs.length - a) - a = min 3 (xs.length - a) from by omega, ← List.length_drop, List.take_eq_take_iff]
  omega
set_option maxHeartbeats 4000000 in
theorem PoolFair_c {F : Nat → Prop} {v : Value} {order : List UInt8} (now : Int) (w : World) (hv : Rs F w v order) (h0 : 0 ≤ now) (h1 : now < 65536) :
    Calls Try.prog 5 #[v, .int .u16 now] w fun e w' => e = .returned (.bool true) ∧ Ext0 w w' := by
  have H := (SH.start w).arg hv
  have h63 := hv.len63
  refine calls_of_CW Try.func5 rfl Try.ntmps5 (Nat.le_of_ble_eq_true rfl) ?_
  simp only [argE, argFrom, Nat.reduceAdd]
  refine CW.seq (fun K1 h1 => ?_)
  refine CW.region ?_
  refine r_assign rfl ?_
  refine LW.nil ?_
  refine thenE_norm (h1 _ _ ?_); clear h1; try clear K1
  refine CW.seq (fun K2 h2 => ?_)
  refine CW.region ?_
  refine r_call rfl Try.call18 (by simp only [List.map_cons, List.map_nil, List.map_toArray, List.toList_toArray, upd_get, ev, Nat.reduceEqDiff, ↓reduceIte] <;> rfl) (PoolNew_c _) ?_
  rintro _ w1_0 ⟨p, FN, rfl, K⟩
  refine ⟨_, rfl, ?_⟩
  replace H := SH.call H K
  clear K
  try dsimp only [replC, List.cons_append, List.nil_append, List.append_nil] at H
  refine r_assign rfl ?_
  refine LW.nil ?_
  refine thenE_norm (h2 _ _ ?_); clear h2; try clear K2
  refine CW.seq (fun K3 h3 => ?_)
  refine CW.seq (fun K4 h4 => ?_)
  refine CW.region ?_
  refine r_move rfl ?_
  refine r_eqlP rfl Try.underlying22 rfl rfl ?_
  refine LW.nil ?_
  refine thenE_norm (h4 _ _ ?_); clear h4; try clear K4
  refine CW.condF rfl (by first | rfl | (simp only [decide_eq_true_eq, decide_eq_false_iff_not, Bool.and_eq_true, Bool.or_eq_true, Bool.and_eq_false_iff, Bool.or_eq_false_iff, Bool.not_eq_true', Bool.not_eq_false', beq_iff_eq, bne_iff_ne]; omega) | simp_all) ?_
  refine CW.skip ?_
  refine thenE_norm (h3 _ _ ?_); clear h3; try clear K3
  refine CW.seq (fun K5 h5 => ?_)
  refine CW.region ?_
  refine r_assign rfl ?_
  refine LW.nil ?_
  refine thenE_norm (h5 _ _ ?_); clear h5; try clear K5
  refine CW.seq (fun K6 h6 => ?_)
  refine CW.seq (fun K7 h7 => ?_)
  refine CW.region ?_
  refine r_assign rfl ?_
  refine LW.nil ?_
  refine thenE_norm (h7 _ _ ?_); clear h7; try clear K7
  refine CW.block ?_
  refine CW.loopR [0, 1, 5] [6, 7] (fun m vs w' => ∃ (i : Nat) (u : Value) (g : Option Nat) (es : List Ent) (came : List Rq) (FN : Nat → Prop), vs = [u, .int .i64 i] ∧ i ≤ order.length ∧ m = order.length - i ∧ Fair es came 0 (now + 6) ∧ came.length ≤ 6 ∧ (∀ r ∈ came, r = rO r.client 1) ∧ SH Non Any w w' [.R (Old w) v order, .P FN (PoolA p es FN), .O 29 u came g]) (order.length) ?_ ?_
  · exact ⟨0, .slice none 0 0, none, [], [], _, rfl, by omega, by omega, Fair.nil _, by simp, by simp, H.addO (α := Rq) 29⟩
  try clear H
  rintro n1 vs1 wL1 σ ⟨i, u, g, es, came, FN, rfl, hi, rfl, hf, hc6, hall, H⟩
  simp only [setL, keepE, upd_get, ev, Nat.reduceEqDiff, ↓reduceIte]
  refine CW.seq (fun K8 h8 => ?_)
  refine CW.seq (fun K9 h9 => ?_)
  refine CW.region ?_
  refine r_move rfl ?_
  refine r_move rfl ?_
  first
    | refine r_lenV rfl Try.underlying43 (by simp only [upd_get, ev, Nat.reduceEqDiff, ↓reduceIte] <;> rfl) (by first | assumption | exact SH.rsR H (by (repeat first | exact At.here | apply At.there); done) | exact SH.rsO H (by (repeat first | exact At.here | apply At.there); done) | exact Rs.toH (by first | assumption | exact SH.rsR H (by (repeat first | exact At.here | apply At.there); done) | exact SH.rsO H (by (repeat first | exact At.here | apply At.there); done)) (by omega) | exact Rs.toL (by first | assumption | exact SH.rsR H (by (repeat first | exact At.here | apply At.there); done) | exact SH.rsO H (by (repeat first | exact At.here | apply At.there); done)) (by omega) | exact Rs.toLH (by first | assumption | exact SH.rsR H (by (repeat first | exact At.here | apply At.there); done) | exact SH.rsO H (by (repeat first | exact At.here | apply At.there); done)) (by omega) (by omega) | exact (Rs.nil : Rs Non _ _ _)) ?_
    | refine r_len rfl Try.underlying43 rfl ?_
  refine r_lss rfl rfl rfl ?_
  refine r_move rfl ?_
  refine' LW.grpAnd (n := 4) (ts := [0, 1, 5, 6, 7]) (d := 24) (tj := 20) rfl (fun hg6_5 => ?_) (fun hg6_5 => ?_) (fun σ => ?_)
  rotate_left
  · simp only [List.take_succ_cons, List.take_zero]
    have hg6_5P := hg6_5
    try simp only [decide_eq_true_eq, decide_eq_false_iff_not, Bool.and_eq_true, Bool.or_eq_true, Bool.and_eq_false_iff, Bool.or_eq_false_iff, Bool.not_eq_true', Bool.not_eq_false', beq_iff_eq, bne_iff_ne] at hg6_5P
    refine LW.want rfl rfl hg6_5 ?_
    refine r_move rfl ?_
    refine LW.want rfl rfl hg6_5 ?_
    first
      | refine r_lenV rfl Try.underlying30 (by simp only [upd_get, ev, Nat.reduceEqDiff, ↓reduceIte] <;> rfl) (by first | assumption | exact SH.rsR H (by (repeat first | exact At.here | apply At.there); done) | exact SH.rsO H (by (repeat first | exact At.here | apply At.there); done) | exact Rs.toH (by first | assumption | exact SH.rsR H (by (repeat first | exact At.here | apply At.there); done) | exact SH.rsO H (by (repeat first | exact At.here | apply At.there); done)) (by omega) | exact Rs.toL (by first | assumption | exact SH.rsR H (by (repeat first | exact At.here | apply At.there); done) | exact SH.rsO H (by (repeat first | exact At.here | apply At.there); done)) (by omega) | exact Rs.toLH (by first | assumption | exact SH.rsR H (by (repeat first | exact At.here | apply At.there); done) | exact SH.rsO H (by (repeat first | exact At.here | apply At.there); done)) (by omega) (by omega) | exact (Rs.nil : Rs Non _ _ _)) ?_
      | refine r_len rfl Try.underlying30 rfl ?_
    refine LW.want rfl rfl hg6_5 ?_
    refine r_lss rfl rfl rfl ?_
    refine r_pickT rfl rfl hg6_5 ?_
    refine LW.nil (thenE_norm ⟨rfl, rfl, rfl⟩)
  · simp only [List.take_succ_cons, List.take_zero]
    refine LW.skip rfl (fun _ e => by cases e; decide) rfl hg6_5 ?_
    refine LW.skip rfl (fun _ e => by cases e; decide) rfl hg6_5 ?_
    refine LW.skip rfl (fun _ e => by cases e; decide) rfl hg6_5 ?_
    refine r_pickF rfl rfl hg6_5 ?_
    refine LW.nil (thenE_norm ⟨rfl, rfl, rfl⟩)
  simp only [setL, keepE, upd_get, ev, Nat.reduceEqDiff, ↓reduceIte]; simp only [List.drop_succ_cons, List.drop_zero]
  refine LW.nil ?_
  refine thenE_norm (h9 _ _ ?_); clear h9; try clear K9
  refine CW.cond rfl (fun hc2 => ?_) (fun hc2 => ?_)
  · try simp only [decide_eq_true_eq, decide_eq_false_iff_not, Bool.and_eq_true, Bool.or_eq_true, Bool.and_eq_false_iff, Bool.or_eq_false_iff, Bool.not_eq_true', Bool.not_eq_false', beq_iff_eq, bne_iff_ne, ne_eq, Decidable.not_not] at hc2
    refine CW.skip ?_
    refine thenE_norm (h8 _ _ ?_); clear h8; try clear K8
    refine CW.seq (fun K10 h10 => ?_)
    refine CW.block ?_
    refine CW.seq (fun K11 h11 => ?_)
    obtain ⟨x, hx⟩ := get_of_lt (show i < order.length by omega)
    have hx8 := x.toNat_lt
    have hm0 := Int.emod_nonneg (x.toNat : Int) (show (8 : Int) ≠ 0 from by decide)
    have hm1 := Int.emod_lt_of_pos (x.toNat : Int) (show (0 : Int) < 8 from by decide)
    refine CW.region ?_
    refine r_move rfl ?_
    refine r_move rfl ?_
    refine r_indexAddrV rfl Try.underlying43 (by simp only [upd_get, ev, Nat.reduceEqDiff, ↓reduceIte] <;> rfl) rfl (by first | assumption | exact SH.rsR H (by (repeat first | exact At.here | apply At.there); done) | exact SH.rsO H (by (repeat first | exact At.here | apply At.there); done) | exact Rs.toH (by first | assumption | exact SH.rsR H (by (repeat first | exact At.here | apply At.there); done) | exact SH.rsO H (by (repeat first | exact At.here | apply At.there); done)) (by omega) | exact Rs.toL (by first | assumption | exact SH.rsR H (by (repeat first | exact At.here | apply At.there); done) | exact SH.rsO H (by (repeat first | exact At.here | apply At.there); done)) (by omega) | exact Rs.toLH (by first | assumption | exact SH.rsR H (by (repeat first | exact At.here | apply At.there); done) | exact SH.rsO H (by (repeat first | exact At.here | apply At.there); done)) (by omega) (by omega) | exact (Rs.nil : Rs Non _ _ _)) (by exact Try.sizeOf5) (by omega) (by omega) ?_
    refine r_load rfl Try.isAgg5 rfl (by first | exact Rs.cell (by first | assumption | exact SH.rsR H (by (repeat first | exact At.here | apply At.there); done) | exact SH.rsO H (by (repeat first | exact At.here | apply At.there); done) | exact Rs.toH (by first | assumption | exact SH.rsR H (by (repeat first | exact At.here | apply At.there); done) | exact SH.rsO H (by (repeat first | exact At.here | apply At.there); done)) (by omega) | exact Rs.toL (by first | assumption | exact SH.rsR H (by (repeat first | exact At.here | apply At.there); done) | exact SH.rsO H (by (repeat first | exact At.here | apply At.there); done)) (by omega) | exact Rs.toLH (by first | assumption | exact SH.rsR H (by (repeat first | exact At.here | apply At.there); done) | exact SH.rsO H (by (repeat first | exact At.here | apply At.there); done)) (by omega) (by omega) | exact (Rs.nil : Rs Non _ _ _)) (by assumption) (by rfl) | exact Rs.cell0 (by first | assumption | exact SH.rsR H (by (repeat first | exact At.here | apply At.there); done) | exact SH.rsO H (by (repeat first | exact At.here | apply At.there); done) | exact Rs.toH (by first | assumption | exact SH.rsR H (by (repeat first | exact At.here | apply At.there); done) | exact SH.rsO H (by (repeat first | exact At.here | apply At.there); done)) (by omega) | exact Rs.toL (by first | assumption | exact SH.rsR H (by (repeat first | exact At.here | apply At.there); done) | exact SH.rsO H (by (repeat first | exact At.here | apply At.there); done)) (by omega) | exact Rs.toLH (by first | assumption | exact SH.rsR H (by (repeat first | exact At.here | apply At.there); done) | exact SH.rsO H (by (repeat first | exact At.here | apply At.there); done)) (by omega) (by omega) | exact (Rs.nil : Rs Non _ _ _)) (by assumption) (by rfl) | assumption) ?_
    refine r_convI rfl Try.underlying5 Try.underlying3 rfl (wr_i64 (by omega) (by omega)) ?_
    refine r_rem rfl rfl rfl (by omega) (by omega) (wr_i64 (by omega) (by omega)) ?_
    refine r_buildQ rfl Try.underlying27 Try.zeroValue27 rfl (pl := [(0, 1), (1, 1), (2, 1)]) (by intro w; simp [go_sem]) (qs := [(0, [_])]) (cs := [_, .int .i64 0, .string (ByteArray.mk #[])]) ⟨rfl, cells_one (by simp only [upd_get, ev, Nat.reduceEqDiff, ↓reduceIte] <;> rfl) (by first | rfl | exact Rs.oneC (by first | assumption | exact SH.rsR H (by (repeat first | exact At.here | apply At.there); done) | exact SH.rsO H (by (repeat first | exact At.here | apply At.there); done) | exact Rs.toH (by first | assumption | exact SH.rsR H (by (repeat first | exact At.here | apply At.there); done) | exact SH.rsO H (by (repeat first | exact At.here | apply At.there); done)) (by omega) | exact Rs.toL (by first | assumption | exact SH.rsR H (by (repeat first | exact At.here | apply At.there); done) | exact SH.rsO H (by (repeat first | exact At.here | apply At.there); done)) (by omega) | exact Rs.toLH (by first | assumption | exact SH.rsR H (by (repeat first | exact At.here | apply At.there); done) | exact SH.rsO H (by (repeat first | exact At.here | apply At.there); done)) (by omega) (by omega) | exact (Rs.nil : Rs Non _ _ _))), trivial⟩ rfl ?_
    refine r_buildQ rfl Try.underlying29 Try.zeroValue29 rfl (pl := [(0, 1), (1, 1), (2, 3)]) (by intro w; simp [go_sem]) (qs := [(0, [_]), (1, [_]), (2, [_, _, _])]) (cs := [_, _, _, _, _]) ⟨rfl, cells_one (by simp only [upd_get, ev, Nat.reduceEqDiff, ↓reduceIte] <;> rfl) (by first | rfl | exact Rs.oneC (by first | assumption | exact SH.rsR H (by (repeat first | exact At.here | apply At.there); done) | exact SH.rsO H (by (repeat first | exact At.here | apply At.there); done) | exact Rs.toH (by first | assumption | exact SH.rsR H (by (repeat first | exact At.here | apply At.there); done) | exact SH.rsO H (by (repeat first | exact At.here | apply At.there); done)) (by omega) | exact Rs.toL (by first | assumption | exact SH.rsR H (by (repeat first | exact At.here | apply At.there); done) | exact SH.rsO H (by (repeat first | exact At.here | apply At.there); done)) (by omega) | exact Rs.toLH (by first | assumption | exact SH.rsR H (by (repeat first | exact At.here | apply At.there); done) | exact SH.rsO H (by (repeat first | exact At.here | apply At.there); done)) (by omega) (by omega) | exact (Rs.nil : Rs Non _ _ _))), rfl, cells_one (by simp only [upd_get, ev, Nat.reduceEqDiff, ↓reduceIte] <;> rfl) (by first | rfl | exact Rs.oneC (by first | assumption | exact SH.rsR H (by (repeat first | exact At.here | apply At.there); done) | exact SH.rsO H (by (repeat first | exact At.here | apply At.there); done) | exact Rs.toH (by first | assumption | exact SH.rsR H (by (repeat first | exact At.here | apply At.there); done) | exact SH.rsO H (by (repeat first | exact At.here | apply At.there); done)) (by omega) | exact Rs.toL (by first | assumption | exact SH.rsR H (by (repeat first | exact At.here | apply At.there); done) | exact SH.rsO H (by (repeat first | exact At.here | apply At.there); done)) (by omega) | exact Rs.toLH (by first | assumption | exact SH.rsR H (by (repeat first | exact At.here | apply At.there); done) | exact SH.rsO H (by (repeat first | exact At.here | apply At.there); done)) (by omega) (by omega) | exact (Rs.nil : Rs Non _ _ _))), rfl, (by simp only [upd_get, ev, Nat.reduceEqDiff, ↓reduceIte, cellsL, agg, List.toList_toArray, Row.cells, Cm.L, Rq.L, Ent.L] <;> rfl), trivial⟩ rfl ?_
    refine s_alloc (cs := [.int .i64 0, .int .i64 0, .int .i64 0, .int .i64 0, .string (ByteArray.mk #[])]) H rfl Try.zeroValue29 rfl ?_
    clear H
    intro b8_8 w8_8 H
    try dsimp only [replC, List.cons_append, List.nil_append, List.append_nil, agg, cellsL, Value.cells, List.toList_toArray, List.set_cons_zero, List.set_cons_succ, spliceL, List.take_succ_cons, List.take_zero, List.drop_succ_cons, List.drop_zero, List.length_cons, List.length_nil, Nat.reduceAdd, Row.cells, Cm.L, Rq.L, Ent.L] at H
    refine s_storeA H Try.sizeOf29 rfl (by simp only [upd_get, ev, Nat.reduceEqDiff, ↓reduceIte] <;> rfl) (by simp only [cellsL, agg, List.toList_toArray, Row.cells, Cm.L, Rq.L, Ent.L] <;> rfl) (by rfl) (by first | rfl | assumption | exact Rs.oneC (by first | assumption | exact SH.rsR H (by (repeat first | exact At.here | apply At.there); done) | exact SH.rsO H (by (repeat first | exact At.here | apply At.there); done) | exact Rs.toH (by first | assumption | exact SH.rsR H (by (repeat first | exact At.here | apply At.there); done) | exact SH.rsO H (by (repeat first | exact At.here | apply At.there); done)) (by omega) | exact Rs.toL (by first | assumption | exact SH.rsR H (by (repeat first | exact At.here | apply At.there); done) | exact SH.rsO H (by (repeat first | exact At.here | apply At.there); done)) (by omega) | exact Rs.toLH (by first | assumption | exact SH.rsR H (by (repeat first | exact At.here | apply At.there); done) | exact SH.rsO H (by (repeat first | exact At.here | apply At.there); done)) (by omega) (by omega) | exact (Rs.nil : Rs Non _ _ _)) | (simp only [List.all_cons, List.all_nil, Bool.and_true, Bool.and_eq_true, Row.cells, Cm.L, Rq.L, Ent.L]; (repeat' constructor) <;> first | rfl | assumption | exact Rs.oneC (by first | assumption | exact SH.rsR H (by (repeat first | exact At.here | apply At.there); done) | exact SH.rsO H (by (repeat first | exact At.here | apply At.there); done) | exact Rs.toH (by first | assumption | exact SH.rsR H (by (repeat first | exact At.here | apply At.there); done) | exact SH.rsO H (by (repeat first | exact At.here | apply At.there); done)) (by omega) | exact Rs.toL (by first | assumption | exact SH.rsR H (by (repeat first | exact At.here | apply At.there); done) | exact SH.rsO H (by (repeat first | exact At.here | apply At.there); done)) (by omega) | exact Rs.toLH (by first | assumption | exact SH.rsR H (by (repeat first | exact At.here | apply At.there); done) | exact SH.rsO H (by (repeat first | exact At.here | apply At.there); done)) (by omega) (by omega) | exact (Rs.nil : Rs Non _ _ _)))) (by (repeat first | exact At.here | apply At.there); done) (by first | (simp; done) | decide | (show _ ≤ _; decide)) ?_
    clear H
    intro w8_9 H
    try dsimp only [replC, List.cons_append, List.nil_append, List.append_nil, agg, cellsL, Value.cells, List.toList_toArray, List.set_cons_zero, List.set_cons_succ, spliceL, List.take_succ_cons, List.take_zero, List.drop_succ_cons, List.drop_zero, List.length_cons, List.length_nil, Nat.reduceAdd, Row.cells, Cm.L, Rq.L, Ent.L] at H
    refine LW.nil ?_
    refine thenE_norm ?_
    refine cut (K := K11) [0, 1, 5, 6, 7, 8] (fun σ => ?_)
    simp only [setL, keepE, upd_get, ev, Nat.reduceEqDiff, ↓reduceIte]
    refine h11 _ _ ?_; clear h11; try clear K11
    refine CW.seq (fun K12 h12 => ?_)
    refine CW.seq (fun K13 h13 => ?_)
    refine CW.region ?_
    refine r_move rfl ?_
    refine r_fieldAddrO rfl Try.underlying29 rfl Try.sizeOf3 (by decide) (show _ = 0 from rfl) rfl ?_
    refine r_load rfl Try.isAgg3 rfl (by first | exact SH.cellB H (by (repeat first | exact At.here | apply At.there); done) (by rfl) | assumption) ?_
    refine r_call rfl Try.call25 (by simp only [List.map_cons, List.map_nil, List.map_toArray, List.toList_toArray, upd_get, ev, Nat.reduceEqDiff, ↓reduceIte] <;> rfl) (Has_c _ _ _ (SH.prop H (by (repeat first | exact At.here | apply At.there); done))) ?_
    rintro _ w9_3 ⟨rfl, X⟩
    refine ⟨_, rfl, ?_⟩
    replace H := SH.same H X
    clear X
    rw [hf.has hall]
    refine LW.nil ?_
    refine thenE_norm (h13 _ _ ?_); clear h13; try clear K13
    refine CW.cond rfl (fun hc3 => ?_) (fun hc3 => ?_)
    · try simp only [decide_eq_true_eq, decide_eq_false_iff_not, Bool.and_eq_true, Bool.or_eq_true, Bool.and_eq_false_iff, Bool.or_eq_false_iff, Bool.not_eq_true', Bool.not_eq_false', beq_iff_eq, bne_iff_ne, ne_eq, Decidable.not_not] at hc3
      refine CW.exit (thenE_exit (blockE_hit ?_))
      refine thenE_norm (h10 _ _ ?_); clear h10; try clear K10
      refine CW.region ?_
      refine r_move rfl ?_
      refine r_add rfl rfl rfl (wr_i64 (by omega) (by omega)) ?_
      refine r_assign rfl ?_
      refine LW.nil ?_
      refine thenE_norm ⟨rfl, ?_⟩
      exact ⟨order.length - (i + 1), by omega, i + 1, _, _, es, came, _, rfl, by omega, rfl, hf, hc6, hall, (SH.sel H [0, 1, 2] (by decide) (by rfl))⟩
    · try simp only [decide_eq_true_eq, decide_eq_false_iff_not, Bool.and_eq_true, Bool.or_eq_true, Bool.and_eq_false_iff, Bool.or_eq_false_iff, Bool.not_eq_true', Bool.not_eq_false', beq_iff_eq, bne_iff_ne, ne_eq, Decidable.not_not] at hc3
      have hnc : (x.toNat : Int) % 8 ∉ came.map Rq.client := by simpa using hc3
      have hl6 : came.length < 6 := by omega
      refine CW.skip ?_
      refine thenE_norm (h12 _ _ ?_); clear h12; try clear K12
      refine CW.seq (fun K14 h14 => ?_)
      refine CW.seq (fun K15 h15 => ?_)
      refine CW.region ?_
      refine r_move rfl ?_
      refine r_loadA rfl Try.isAgg29 Try.sizeOf29 rfl (by first | exact SH.cells H (by (repeat first | exact At.here | apply At.there); done)) (by rfl) ?_
      refine r_move rfl ?_
      refine r_convI rfl Try.underlying44 Try.underlying3 rfl (wr_i64 (by omega) (by omega)) ?_
      refine r_move rfl ?_
      first
        | refine r_lenV rfl Try.underlying30 (by simp only [upd_get, ev, Nat.reduceEqDiff, ↓reduceIte] <;> rfl) (by first | assumption | exact SH.rsR H (by (repeat first | exact At.here | apply At.there); done) | exact SH.rsO H (by (repeat first | exact At.here | apply At.there); done) | exact Rs.toH (by first | assumption | exact SH.rsR H (by (repeat first | exact At.here | apply At.there); done) | exact SH.rsO H (by (repeat first | exact At.here | apply At.there); done)) (by omega) | exact Rs.toL (by first | assumption | exact SH.rsR H (by (repeat first | exact At.here | apply At.there); done) | exact SH.rsO H (by (repeat first | exact At.here | apply At.there); done)) (by omega) | exact Rs.toLH (by first | assumption | exact SH.rsR H (by (repeat first | exact At.here | apply At.there); done) | exact SH.rsO H (by (repeat first | exact At.here | apply At.there); done)) (by omega) (by omega) | exact (Rs.nil : Rs Non _ _ _)) ?_
        | refine r_len rfl Try.underlying30 rfl ?_
      refine r_add rfl rfl rfl (wr_i64 (by omega) (by omega)) ?_
      refine r_call rfl Try.call19 (by simp only [List.map_cons, List.map_nil, List.map_toArray, List.toList_toArray, upd_get, ev, Nat.reduceEqDiff, ↓reduceIte] <;> rfl) (Add_c (rO ((x.toNat : Int) % 8) 1) _ _ (SH.prop H (i := 1) rfl) (show 0 ≤ _ from by decide)) ?_
      rintro _ w10_7 ⟨FN10_7, rfl, K⟩
      refine ⟨_, rfl, ?_⟩
      replace H := SH.updP H (i := 1) rfl K
      clear K
      try dsimp only [replC, List.cons_append, List.nil_append, List.append_nil] at H
      rw [hf.add hm0 hm1 hnc hl6] at H ⊢
      dsimp only at H ⊢
      refine r_neq rfl rfl rfl ?_
      refine LW.nil ?_
      refine thenE_norm ?_
      refine cut (K := K15) [0, 1, 5, 6, 7, 8, 47] (fun σ => ?_)
      simp only [setL, keepE, upd_get, ev, Nat.reduceEqDiff, ↓reduceIte]
      refine h15 _ _ ?_; clear h15; try clear K15
      refine CW.condF rfl (by first | rfl | (simp only [decide_eq_true_eq, decide_eq_false_iff_not, Bool.and_eq_true, Bool.or_eq_true, Bool.and_eq_false_iff, Bool.or_eq_false_iff, Bool.not_eq_true', Bool.not_eq_false', beq_iff_eq, bne_iff_ne]; omega) | simp_all) ?_
      refine CW.skip ?_
      refine thenE_norm (h14 _ _ ?_); clear h14; try clear K14
      refine CW.region ?_
      refine r_move rfl ?_
      refine r_loadA rfl Try.isAgg29 Try.sizeOf29 rfl (by first | exact SH.cells H (by (repeat first | exact At.here | apply At.there); done)) (by rfl) ?_
      refine r_buildSliceA (vs := [_]) rfl Try.underlying30 Try.sizeOf29 Try.zeroValue29 rfl rfl rfl rfl (by simp only [List.map_cons, List.map_nil, List.toList_toArray, numbered, Nat.reduceAdd, upd_get, ev, Nat.reduceEqDiff, ↓reduceIte] <;> rfl) rfl (by intro v hv; simp only [List.mem_cons, List.not_mem_nil, or_false] at hv; rcases hv with rfl <;> rfl) ?_
      intro b12_2 w12_2 hb12_2 hs12_2 hE12_2 hB12_2
      replace H := SH.call H (SH.fromB hE12_2 hb12_2 hs12_2 hB12_2)
      clear hb12_2 hs12_2 hE12_2 hB12_2
      try dsimp only [replC, List.cons_append, List.nil_append, List.append_nil, agg, cellsL, Value.cells, List.toList_toArray, List.set_cons_zero, List.set_cons_succ, spliceL, List.take_succ_cons, List.take_zero, List.drop_succ_cons, List.drop_zero, List.length_cons, List.length_nil, Nat.reduceAdd, Row.cells, Cm.L, Rq.L, Ent.L] at H
      replace H := SH.row (b := b12_2) (xs := ([rO ((x.toNat : Int) % 8) 1] : List Rq)) (n := 1) (cap := 1) H (by (repeat first | exact At.here | apply At.there); done) (by simp only [flat, List.flatMap_cons, List.flatMap_nil, cellsL, agg, List.append_nil, List.cons_append, List.nil_append, List.toList_toArray, Row.cells, Cm.L, Rq.L, Ent.L] <;> rfl) (by intro x hx; first | rfl | (simp at hx; done) | (simp only [List.mem_cons, List.not_mem_nil, or_false] at hx; rcases hx with rfl <;> first | rfl | exact (by first | rfl | assumption | exact Rs.oneC (by first | assumption | exact SH.rsR H (by (repeat first | exact At.here | apply At.there); done) | exact SH.rsO H (by (repeat first | exact At.here | apply At.there); done) | exact Rs.toH (by first | assumption | exact SH.rsR H (by (repeat first | exact At.here | apply At.there); done) | exact SH.rsO H (by (repeat first | exact At.here | apply At.there); done)) (by omega) | exact Rs.toL (by first | assumption | exact SH.rsR H (by (repeat first | exact At.here | apply At.there); done) | exact SH.rsO H (by (repeat first | exact At.here | apply At.there); done)) (by omega) | exact Rs.toLH (by first | assumption | exact SH.rsR H (by (repeat first | exact At.here | apply At.there); done) | exact SH.rsO H (by (repeat first | exact At.here | apply At.there); done)) (by omega) (by omega) | exact (Rs.nil : Rs Non _ _ _)) | (simp only [List.all_cons, List.all_nil, Bool.and_true, Bool.and_eq_true, Row.cells, Cm.L, Rq.L, Ent.L]; (repeat' constructor) <;> first | rfl | assumption | exact Rs.oneC (by first | assumption | exact SH.rsR H (by (repeat first | exact At.here | apply At.there); done) | exact SH.rsO H (by (repeat first | exact At.here | apply At.there); done) | exact Rs.toH (by first | assumption | exact SH.rsR H (by (repeat first | exact At.here | apply At.there); done) | exact SH.rsO H (by (repeat first | exact At.here | apply At.there); done)) (by omega) | exact Rs.toL (by first | assumption | exact SH.rsR H (by (repeat first | exact At.here | apply At.there); done) | exact SH.rsO H (by (repeat first | exact At.here | apply At.there); done)) (by omega) | exact Rs.toLH (by first | assumption | exact SH.rsR H (by (repeat first | exact At.here | apply At.there); done) | exact SH.rsO H (by (repeat first | exact At.here | apply At.there); done)) (by omega) (by omega) | exact (Rs.nil : Rs Non _ _ _)))))) (by rfl) rfl (by decide)
      try dsimp only [replC, List.cons_append, List.nil_append, List.append_nil, agg, cellsL, Value.cells, List.toList_toArray, List.set_cons_zero, List.set_cons_succ, spliceL, List.take_succ_cons, List.take_zero, List.drop_succ_cons, List.drop_zero, List.length_cons, List.length_nil, Nat.reduceAdd, Row.cells, Cm.L, Rq.L, Ent.L] at H
      refine s_append H rfl Try.underlying30 Try.underlying30 Try.type29 rfl (by simp only [upd_get, ev, Nat.reduceEqDiff, ↓reduceIte] <;> rfl) (by simp only [upd_get, ev, Nat.reduceEqDiff, ↓reduceIte] <;> rfl) (by (repeat first | exact At.here | apply At.there); done) (by first | assumption | exact SH.rsR H (by (repeat first | exact At.here | apply At.there); done) | exact SH.rsO H (by (repeat first | exact At.here | apply At.there); done) | exact Rs.toH (by first | assumption | exact SH.rsR H (by (repeat first | exact At.here | apply At.there); done) | exact SH.rsO H (by (repeat first | exact At.here | apply At.there); done)) (by omega) | exact Rs.toL (by first | assumption | exact SH.rsR H (by (repeat first | exact At.here | apply At.there); done) | exact SH.rsO H (by (repeat first | exact At.here | apply At.there); done)) (by omega) | exact Rs.toLH (by first | assumption | exact SH.rsR H (by (repeat first | exact At.here | apply At.there); done) | exact SH.rsO H (by (repeat first | exact At.here | apply At.there); done)) (by omega) (by omega) | exact (Rs.nil : Rs Non _ _ _)) (by rfl) (by rfl) (by first | omega | (simp only [Try.t29, List.length_append, List.length_cons, List.length_nil, List.length_map, maxLen]; omega) | (simp [Try.t29, maxLen]; omega)) (by first | omega | (simp only [Try.t29, List.length_append, List.length_cons, List.length_nil, List.length_map, maxLen]; omega) | (simp [Try.t29, maxLen]; omega)) ?_
      clear H
      intro v12_3 w12_3 g12_3 H hN12_3
      try dsimp only [replC, List.cons_append, List.nil_append, List.append_nil] at H
      refine r_assign rfl ?_
      refine LW.nil ?_
      refine blockE_norm ?_
      refine thenE_norm (h10 _ _ ?_); clear h10; try clear K10
      refine CW.region ?_
      refine r_move rfl ?_
      refine r_add rfl rfl rfl (wr_i64 (by omega) (by omega)) ?_
      refine r_assign rfl ?_
      refine LW.nil ?_
      refine thenE_norm ⟨rfl, ?_⟩
      exact ⟨order.length - (i + 1), by omega, i + 1, _, _, es ++ [newE (rO ((x.toNat : Int) % 8) 1) (now + came.length)], came ++ [rO ((x.toNat : Int) % 8) 1], _, rfl, by omega, rfl, hf.snoc hnc (by omega) (by unfold cutM; omega), by simp; omega, fun r hr => by
        rcases List.mem_append.1 hr with hr | hr
        · exact hall r hr
        · rw [List.mem_singleton] at hr; subst hr; rfl, (SH.sel H [0, 1, 2] (by decide) (by rfl))⟩
  · try simp only [decide_eq_true_eq, decide_eq_false_iff_not, Bool.and_eq_true, Bool.or_eq_true, Bool.and_eq_false_iff, Bool.or_eq_false_iff, Bool.not_eq_true', Bool.not_eq_false', beq_iff_eq, bne_iff_ne, ne_eq, Decidable.not_not] at hc2
    refine CW.exit (thenE_exit (thenE_exit (blockE_hit ?_)))
    refine thenE_norm (h6 _ _ ?_); clear h6; try clear K6
    refine CW.seq (fun K16 h16 => ?_)
    refine CW.region ?_
    refine r_assign rfl ?_
    refine LW.nil ?_
    refine thenE_norm (h16 _ _ ?_); clear h16; try clear K16
    refine CW.seq (fun K17 h17 => ?_)
    refine CW.seq (fun K18 h18 => ?_)
    refine CW.region ?_
    refine r_assign rfl ?_
    refine LW.nil ?_
    refine thenE_norm (h18 _ _ ?_); clear h18; try clear K18
    refine CW.block ?_
    refine CW.loopR [1, 5, 6] [9, 10] (fun m vs w' => ∃ (k : Nat) (es : List Ent) (FN : Nat → Prop), vs = [.int .i64 (min (3 * k) came.length : Nat), .int .i64 k] ∧ k ≤ 3 ∧ m = 3 - k ∧ Fair es came (min (3 * k) came.length) (now + 6) ∧ SH Non Any w w' [.P FN (PoolA p es FN), .O 29 u came g]) (3) ?_ ?_
    · exact ⟨0, es, _, rfl, by omega, by omega, by simpa using hf, (SH.sel H [1, 2] (by decide) (by rfl))⟩
    try clear H
    rintro n2 vs2 wL2 σ ⟨k, es, FN, rfl, hk, rfl, hf, H⟩
    simp only [setL, keepE, upd_get, ev, Nat.reduceEqDiff, ↓reduceIte]
    refine CW.seq (fun K19 h19 => ?_)
    refine CW.seq (fun K20 h20 => ?_)
    refine CW.region ?_
    refine r_move rfl ?_
    refine r_lss rfl rfl rfl ?_
    refine LW.nil ?_
    refine thenE_norm (h20 _ _ ?_); clear h20; try clear K20
    refine CW.cond rfl (fun hc5 => ?_) (fun hc5 => ?_)
    · try simp only [decide_eq_true_eq, decide_eq_false_iff_not, Bool.and_eq_true, Bool.or_eq_true, Bool.and_eq_false_iff, Bool.or_eq_false_iff, Bool.not_eq_true', Bool.not_eq_false', beq_iff_eq, bne_iff_ne, ne_eq, Decidable.not_not] at hc5
      refine CW.skip ?_
      refine thenE_norm (h19 _ _ ?_); clear h19; try clear K19
      refine CW.seq (fun K21 h21 => ?_)
      refine CW.block ?_
      refine CW.seq (fun K22 h22 => ?_)
      generalize hA : min (3 * k) came.length = a at *
      have hal : a ≤ came.length := by omega
      refine CW.region ?_
      refine r_move rfl ?_
      refine r_move rfl ?_
      refine r_convI rfl Try.underlying44 Try.underlying3 rfl (wr_i64 (by omega) (by omega)) ?_
      refine r_add rfl rfl rfl (wr_i64 (by omega) (by omega)) ?_
      refine r_call rfl Try.call20 (by simp only [List.map_cons, List.map_nil, List.map_toArray, List.toList_toArray, upd_get, ev, Nat.reduceEqDiff, ↓reduceIte] <;> rfl) (Ready_c _ _ _ (SH.prop H (by (repeat first | exact At.here | apply At.there); done))) ?_
      rintro _ w17_4 ⟨v17_4, g17_4, rfl, K⟩
      refine ⟨_, rfl, ?_⟩
      replace H := SH.call H K
      clear K
      try dsimp only [replC, List.cons_append, List.nil_append, List.append_nil] at H
      rw [hf.ready (by omega) (by omega) (by omega)] at H
      refine r_assign rfl ?_
      refine LW.nil ?_
      refine thenE_norm ?_
      refine cut (K := K22) [1, 5, 6, 9, 10, 11] (fun σ => ?_)
      simp only [setL, keepE, upd_get, ev, Nat.reduceEqDiff, ↓reduceIte]
      refine h22 _ _ ?_; clear h22; try clear K22
      refine CW.seq (fun K23 h23 => ?_)
      refine CW.region ?_
      refine r_move rfl ?_
      first
        | refine r_lenV rfl Try.underlying30 (by simp only [upd_get, ev, Nat.reduceEqDiff, ↓reduceIte] <;> rfl) (by first | assumption | exact SH.rsR H (by (repeat first | exact At.here | apply At.there); done) | exact SH.rsO H (by (repeat first | exact At.here | apply At.there); done) | exact Rs.toH (by first | assumption | exact SH.rsR H (by (repeat first | exact At.here | apply At.there); done) | exact SH.rsO H (by (repeat first | exact At.here | apply At.there); done)) (by omega) | exact Rs.toL (by first | assumption | exact SH.rsR H (by (repeat first | exact At.here | apply At.there); done) | exact SH.rsO H (by (repeat first | exact At.here | apply At.there); done)) (by omega) | exact Rs.toLH (by first | assumption | exact SH.rsR H (by (repeat first | exact At.here | apply At.there); done) | exact SH.rsO H (by (repeat first | exact At.here | apply At.there); done)) (by omega) (by omega) | exact (Rs.nil : Rs Non _ _ _)) ?_
        | refine r_len rfl Try.underlying30 rfl ?_
      refine r_move rfl ?_
      refine r_sub rfl rfl rfl (wr_i64 (by omega) (by omega)) ?_
      refine r_min rfl (by simp only [upd_get, ev, Nat.reduceEqDiff, ↓reduceIte] <;> rfl) (by simp only [upd_get, ev, Nat.reduceEqDiff, ↓reduceIte] <;> rfl) ?_
      refine r_assign rfl ?_
      refine LW.nil ?_
      refine thenE_norm (h23 _ _ ?_); clear h23; try clear K23
      refine CW.seq (fun K24 h24 => ?_)
      refine CW.seq (fun K25 h25 => ?_)
      refine CW.region ?_
      refine r_move rfl ?_
      refine r_move rfl ?_
      refine r_move rfl ?_
      refine r_move rfl ?_
      refine r_move rfl ?_
      refine r_add rfl rfl rfl (wr_i64 (by omega) (by omega)) ?_
      refine r_sliceLHV rfl Try.underlying30 (by simp only [upd_get, ev, Nat.reduceEqDiff, ↓reduceIte] <;> rfl) rfl rfl (SH.rsO H (i := 1) rfl) (by exact Try.sizeOf29) (by omega) (by omega) (by omega) ?_
      refine r_call rfl Try.call26 (by simp only [List.map_cons, List.map_nil, List.map_toArray, List.toList_toArray, upd_get, ev, Nat.reduceEqDiff, ↓reduceIte] <;> rfl) (SameReqs_c _ (SH.rsO H (i := 2) rfl) (Rs.toLH (SH.rsO H (i := 1) rfl) (by omega) (by omega))) ?_
      rintro _ w19_7 ⟨rfl, X⟩
      refine ⟨_, rfl, ?_⟩
      replace H := SH.same H X
      clear X
      refine r_not rfl rfl ?_
      refine LW.nil ?_
      refine thenE_norm ?_
      refine cut (K := K25) [1, 5, 6, 9, 10, 11, 12, 74] (fun σ => ?_)
      simp only [setL, keepE, upd_get, ev, Nat.reduceEqDiff, ↓reduceIte]
      refine h25 _ _ ?_; clear h25; try clear K25
      refine CW.condF rfl (by simp; omega) ?_
      refine CW.skip ?_
      refine thenE_norm (h24 _ _ ?_); clear h24; try clear K24
      refine CW.seq (fun K26 h26 => ?_)
      refine CW.region ?_
      refine r_move rfl ?_
      refine r_move rfl ?_
      refine r_add rfl rfl rfl (wr_i64 (by omega) (by omega)) ?_
      refine r_move rfl ?_
      refine r_call rfl Try.call27 (by simp only [List.map_cons, List.map_nil, List.map_toArray, List.toList_toArray, upd_get, ev, Nat.reduceEqDiff, ↓reduceIte] <;> rfl) (Mark_c _ _ (SH.prop H (i := 0) rfl) (SH.rsO H (i := 2) rfl) (SH.apartPO H (i := 0) (j := 2) rfl rfl (by decide))) ?_
      rintro _ w21_4 ⟨FN21_4, rfl, K⟩
      refine ⟨_, rfl, ?_⟩
      replace H := SH.updP H (i := 0) rfl K
      clear K
      try dsimp only [replC, List.cons_append, List.nil_append, List.append_nil] at H
      refine LW.nil ?_
      refine thenE_norm (h26 _ _ ?_); clear h26; try clear K26
      refine CW.region ?_
      refine r_move rfl ?_
      refine r_move rfl ?_
      refine r_add rfl rfl rfl (wr_i64 (by omega) (by omega)) ?_
      refine r_assign rfl ?_
      refine LW.nil ?_
      refine blockE_norm ?_
      refine thenE_norm (h21 _ _ ?_); clear h21; try clear K21
      refine CW.region ?_
      refine r_move rfl ?_
      refine r_add rfl rfl rfl (wr_i64 (by omega) (by omega)) ?_
      refine r_assign rfl ?_
      refine LW.nil ?_
      refine thenE_norm ⟨rfl, ?_⟩
      have hfm := hf.mark (slot := 1 + k) hal (by omega)
      rw [show min (a + 3) came.length = min (3 * (k + 1)) came.length from by omega] at hfm
      exact ⟨3 - (k + 1), by omega, k + 1, _, _, by rw [show ((min (3 * (k + 1)) came.length : Nat) : Int) = (a : Int) + min 3 ((came.length : Int) - (a : Int)) from by omega]; rfl, by omega, rfl, hfm, (SH.sel H [0, 1] (by decide) (by rfl))⟩
    · try simp only [decide_eq_true_eq, decide_eq_false_iff_not, Bool.and_eq_true, Bool.or_eq_true, Bool.and_eq_false_iff, Bool.or_eq_false_iff, Bool.not_eq_true', Bool.not_eq_false', beq_iff_eq, bne_iff_ne, ne_eq, Decidable.not_not] at hc5
      refine CW.exit (thenE_exit (thenE_exit (blockE_hit ?_)))
      refine thenE_norm (h17 _ _ ?_); clear h17; try clear K17
      refine CW.seq (fun K27 h27 => ?_)
      refine CW.seq (fun K28 h28 => ?_)
      obtain rfl : k = 3 := by omega
      have ha : min (3 * 3) came.length = came.length := by omega
      rw [ha] at hf
      refine CW.region ?_
      refine r_move rfl ?_
      refine r_move rfl ?_
      refine r_convI rfl Try.underlying44 Try.underlying3 rfl (wr_i64 (by omega) (by omega)) ?_
      refine r_add rfl rfl rfl (wr_i64 (by omega) (by omega)) ?_
      refine r_call rfl Try.call20 (by simp only [List.map_cons, List.map_nil, List.map_toArray, List.toList_toArray, upd_get, ev, Nat.reduceEqDiff, ↓reduceIte] <;> rfl) (Ready_c _ _ _ (SH.prop H (by (repeat first | exact At.here | apply At.there); done))) ?_
      rintro _ w23_4 ⟨v23_4, g23_4, rfl, K⟩
      refine ⟨_, rfl, ?_⟩
      replace H := SH.call H K
      clear K
      try dsimp only [replC, List.cons_append, List.nil_append, List.append_nil] at H
      rw [hf.ready (by omega) (by omega) (by omega), List.drop_length, List.take_nil] at H
      first
        | refine r_lenV rfl Try.underlying30 (by simp only [upd_get, ev, Nat.reduceEqDiff, ↓reduceIte] <;> rfl) (by first | assumption | exact SH.rsR H (by (repeat first | exact At.here | apply At.there); done) | exact SH.rsO H (by (repeat first | exact At.here | apply At.there); done) | exact Rs.toH (by first | assumption | exact SH.rsR H (by (repeat first | exact At.here | apply At.there); done) | exact SH.rsO H (by (repeat first | exact At.here | apply At.there); done)) (by omega) | exact Rs.toL (by first | assumption | exact SH.rsR H (by (repeat first | exact At.here | apply At.there); done) | exact SH.rsO H (by (repeat first | exact At.here | apply At.there); done)) (by omega) | exact Rs.toLH (by first | assumption | exact SH.rsR H (by (repeat first | exact At.here | apply At.there); done) | exact SH.rsO H (by (repeat first | exact At.here | apply At.there); done)) (by omega) (by omega) | exact (Rs.nil : Rs Non _ _ _)) ?_
        | refine r_len rfl Try.underlying30 rfl ?_
      refine r_neq rfl rfl rfl ?_
      refine r_move rfl ?_
      refine LW.known (t := 90) (c := false) rfl (by first | rfl | (simp only [decide_eq_true_eq, decide_eq_false_iff_not, Bool.and_eq_true, Bool.or_eq_true, Bool.and_eq_false_iff, Bool.or_eq_false_iff, Bool.not_eq_true', Bool.not_eq_false', beq_iff_eq, bne_iff_ne]; omega) | simp_all) (fun hg23_8 => ?_)
      refine LW.want rfl rfl hg23_8 ?_
      refine r_move rfl ?_
      refine LW.want rfl rfl hg23_8 ?_
      refine r_call rfl Try.call23 (by simp only [List.map_cons, List.map_nil, List.map_toArray, List.toList_toArray, upd_get, ev, Nat.reduceEqDiff, ↓reduceIte] <;> rfl) (List_c _ (SH.prop H (by (repeat first | exact At.here | apply At.there); done))) ?_
      rintro _ w23_9 ⟨v23_9, g23_9, rfl, K⟩
      refine ⟨_, rfl, ?_⟩
      replace H := SH.call H K
      clear K
      try dsimp only [replC, List.cons_append, List.nil_append, List.append_nil] at H
      refine LW.want rfl rfl hg23_8 ?_
      refine r_move rfl ?_
      refine LW.want rfl rfl hg23_8 ?_
      refine r_call rfl Try.call26 (by simp only [List.map_cons, List.map_nil, List.map_toArray, List.toList_toArray, upd_get, ev, Nat.reduceEqDiff, ↓reduceIte] <;> rfl) (SameReqs_c _ (by first | assumption | exact SH.rsR H (by (repeat first | exact At.here | apply At.there); done) | exact SH.rsO H (by (repeat first | exact At.here | apply At.there); done) | exact Rs.toH (by first | assumption | exact SH.rsR H (by (repeat first | exact At.here | apply At.there); done) | exact SH.rsO H (by (repeat first | exact At.here | apply At.there); done)) (by omega) | exact Rs.toL (by first | assumption | exact SH.rsR H (by (repeat first | exact At.here | apply At.there); done) | exact SH.rsO H (by (repeat first | exact At.here | apply At.there); done)) (by omega) | exact Rs.toLH (by first | assumption | exact SH.rsR H (by (repeat first | exact At.here | apply At.there); done) | exact SH.rsO H (by (repeat first | exact At.here | apply At.there); done)) (by omega) (by omega) | exact (Rs.nil : Rs Non _ _ _)) (by first | assumption | exact SH.rsR H (by (repeat first | exact At.here | apply At.there); done) | exact SH.rsO H (by (repeat first | exact At.here | apply At.there); done) | exact Rs.toH (by first | assumption | exact SH.rsR H (by (repeat first | exact At.here | apply At.there); done) | exact SH.rsO H (by (repeat first | exact At.here | apply At.there); done)) (by omega) | exact Rs.toL (by first | assumption | exact SH.rsR H (by (repeat first | exact At.here | apply At.there); done) | exact SH.rsO H (by (repeat first | exact At.here | apply At.there); done)) (by omega) | exact Rs.toLH (by first | assumption | exact SH.rsR H (by (repeat first | exact At.here | apply At.there); done) | exact SH.rsO H (by (repeat first | exact At.here | apply At.there); done)) (by omega) (by omega) | exact (Rs.nil : Rs Non _ _ _))) ?_
      rintro _ w23_11 ⟨rfl, X⟩
      refine ⟨_, rfl, ?_⟩
      replace H := SH.same H X
      clear X
      refine LW.want rfl rfl hg23_8 ?_
      refine r_not rfl rfl ?_
      refine r_pickF rfl rfl hg23_8 ?_
      refine LW.nil ?_
      refine thenE_norm ?_
      refine cut (K := K28) [1, 5, 6, 96] (fun σ => ?_)
      simp only [setL, keepE, upd_get, ev, Nat.reduceEqDiff, ↓reduceIte]
      refine h28 _ _ ?_; clear h28; try clear K28
      refine CW.condF rfl (by rw [hf.1]; simp) ?_
      refine CW.skip ?_
      refine thenE_norm (h27 _ _ ?_); clear h27; try clear K27
      refine CW.seq (fun K29 h29 => ?_)
      refine CW.region ?_
      refine r_move rfl ?_
      refine r_call rfl Try.call28 (by simp only [List.map_cons, List.map_nil, List.map_toArray, List.toList_toArray, upd_get, ev, Nat.reduceEqDiff, ↓reduceIte] <;> rfl) (Clear_c _ (SH.prop H (by (repeat first | exact At.here | apply At.there); done))) ?_
      rintro _ w25_1 ⟨FN25_1, rfl, K⟩
      refine ⟨_, rfl, ?_⟩
      replace H := SH.updP H (by (repeat first | exact At.here | apply At.there); done) K
      clear K
      try dsimp only [replC, List.cons_append, List.nil_append, List.append_nil] at H
      refine LW.nil ?_
      refine thenE_norm (h29 _ _ ?_); clear h29; try clear K29
      refine CW.seq (fun K30 h30 => ?_)
      refine CW.drawP [1] [] H (by dsimp only [pickC, nthC] <;> rfl) (by repeat first | exact List.Sublist.refl _ | exact List.nil_sublist _ | apply List.Sublist.cons_cons | apply List.Sublist.cons) (by kernel_rfl) rfl ?_
      clear H
      intro w26d H
      refine DL.take (i := 0) [] rfl (by kernel_rfl) (by kernel_rfl) (by kernel_rfl) (by kernel_rfl) rfl rfl (fun u H => x_move ) (SH.sub H (by repeat first | exact List.Sublist.refl _ | exact List.nil_sublist _ | apply List.Sublist.cons_cons | apply List.Sublist.cons)) ?_
      refine DL.take (i := 1) [] rfl (by kernel_rfl) (by kernel_rfl) (by kernel_rfl) (by kernel_rfl) rfl rfl (fun u H => x_move ) (SH.sub H (by repeat first | exact List.Sublist.refl _ | exact List.nil_sublist _ | apply List.Sublist.cons_cons | apply List.Sublist.cons)) ?_
      refine DL.take (i := 2) [] rfl (by kernel_rfl) (by kernel_rfl) (by kernel_rfl) (by kernel_rfl) rfl rfl (fun u H => x_convI Try.underlying44 Try.underlying3 rfl (wr_i64 (by omega) (by omega))) (SH.sub H (by repeat first | exact List.Sublist.refl _ | exact List.nil_sublist _ | apply List.Sublist.cons_cons | apply List.Sublist.cons)) ?_
      refine DL.take (i := 3) [] rfl (by kernel_rfl) (by kernel_rfl) (by kernel_rfl) (by kernel_rfl) rfl rfl (fun u H => x_add rfl rfl (wr_i64 (by omega) (by omega))) (SH.sub H (by repeat first | exact List.Sublist.refl _ | exact List.nil_sublist _ | apply List.Sublist.cons_cons | apply List.Sublist.cons)) ?_
      refine DL.take (i := 5) [] rfl (by kernel_rfl) (by kernel_rfl) (by kernel_rfl) (by kernel_rfl) rfl rfl (fun u H => x_move ) (SH.sub H (by repeat first | exact List.Sublist.refl _ | exact List.nil_sublist _ | apply List.Sublist.cons_cons | apply List.Sublist.cons)) ?_
      refine DL.take (i := 6) [] rfl (by kernel_rfl) (by kernel_rfl) (by kernel_rfl) (by kernel_rfl) rfl rfl (fun u H => x_move ) (SH.sub H (by repeat first | exact List.Sublist.refl _ | exact List.nil_sublist _ | apply List.Sublist.cons_cons | apply List.Sublist.cons)) ?_
      refine DL.take (i := 7) [] rfl (by kernel_rfl) (by kernel_rfl) (by kernel_rfl) (by kernel_rfl) rfl rfl (fun u H => x_lenV Try.underlying30 (by simp only [upd_get, ev, Nat.reduceEqDiff, ↓reduceIte] <;> rfl) (by first | assumption | exact SH.rsR H (by (repeat first | exact At.here | apply At.there); done) | exact SH.rsO H (by (repeat first | exact At.here | apply At.there); done) | exact Rs.toH (by first | assumption | exact SH.rsR H (by (repeat first | exact At.here | apply At.there); done) | exact SH.rsO H (by (repeat first | exact At.here | apply At.there); done)) (by omega) | exact Rs.toL (by first | assumption | exact SH.rsR H (by (repeat first | exact At.here | apply At.there); done) | exact SH.rsO H (by (repeat first | exact At.here | apply At.there); done)) (by omega) | exact Rs.toLH (by first | assumption | exact SH.rsR H (by (repeat first | exact At.here | apply At.there); done) | exact SH.rsO H (by (repeat first | exact At.here | apply At.there); done)) (by omega) (by omega) | exact (Rs.nil : Rs Non _ _ _))) (SH.sub H (by repeat first | exact List.Sublist.refl _ | exact List.nil_sublist _ | apply List.Sublist.cons_cons | apply List.Sublist.cons)) ?_
      refine DL.take (i := 8) [] rfl (by kernel_rfl) (by kernel_rfl) (by kernel_rfl) (by kernel_rfl) rfl rfl (fun u H => x_min (by simp only [upd_get, ev, Nat.reduceEqDiff, ↓reduceIte] <;> rfl) (by simp only [upd_get, ev, Nat.reduceEqDiff, ↓reduceIte] <;> rfl)) (SH.sub H (by repeat first | exact List.Sublist.refl _ | exact List.nil_sublist _ | apply List.Sublist.cons_cons | apply List.Sublist.cons)) ?_
      refine DL.take (i := 9) [] rfl (by kernel_rfl) (by kernel_rfl) (by kernel_rfl) (by kernel_rfl) rfl rfl (fun u H => x_sliceHV Try.underlying30 (by simp only [upd_get, ev, Nat.reduceEqDiff, ↓reduceIte] <;> rfl) rfl (by exact SH.rsO H (i := 0) rfl) (by exact Try.sizeOf29) (by omega) (by omega)) (SH.sub H (by repeat first | exact List.Sublist.refl _ | exact List.nil_sublist _ | apply List.Sublist.cons_cons | apply List.Sublist.cons)) ?_
      refine DL.one (i := 4) (by kernel_rfl) rfl rfl ?_
      refine r_call rfl Try.call20 (by simp only [List.map_cons, List.map_nil, List.map_toArray, List.toList_toArray, upd_get, ev, Nat.reduceEqDiff, ↓reduceIte] <;> rfl) (Ready_c _ _ _ (SH.prop H (by (repeat first | exact At.here | apply At.there); done))) ?_
      rintro _ w26_4 ⟨v26_4, g26_4, rfl, K⟩
      refine ⟨_, rfl, ?_⟩
      replace H := SH.call H K
      clear K
      try dsimp only [replC, List.cons_append, List.nil_append, List.append_nil] at H
      rw [hf.clear.ready (by omega) (by omega) (by omega), List.drop_zero] at H
      refine LW.nil (thenE_norm ⟨fun _ => (SH.sub H (by repeat first | exact List.Sublist.refl _ | exact List.nil_sublist _ | apply List.Sublist.cons_cons | apply List.Sublist.cons)), ?_⟩)
      refine DL.one (i := 10) (by kernel_rfl) rfl rfl ?_
      refine r_call rfl Try.call26 (by simp only [List.map_cons, List.map_nil, List.map_toArray, List.toList_toArray, upd_get, ev, Nat.reduceEqDiff, ↓reduceIte] <;> rfl) (SameReqs_c _ (SH.rsO H (i := 4) rfl) (Rs.toH (SH.rsO H (i := 1) rfl) (by omega))) ?_
      rintro _ w26_10 ⟨rfl, X⟩
      refine ⟨_, rfl, ?_⟩
      replace H := SH.same H X
      clear X
      refine LW.nil (thenE_norm ⟨fun _ => (SH.sub H (by repeat first | exact List.Sublist.refl _ | exact List.nil_sublist _ | apply List.Sublist.cons_cons | apply List.Sublist.cons)), ?_⟩)
      refine DL.take (i := 11) [] rfl (by kernel_rfl) (by kernel_rfl) (by kernel_rfl) (by kernel_rfl) rfl rfl (fun u H => x_move ) (SH.sub H (by repeat first | exact List.Sublist.refl _ | exact List.nil_sublist _ | apply List.Sublist.cons_cons | apply List.Sublist.cons)) ?_
      refine DL.known (t := 110) (c := true) rfl (by simp [List.take_eq_take_iff] <;> omega) (fun hg26_11 => ?_)
      refine DL.one (i := 12) (by kernel_rfl) rfl (wantE rfl rfl hg26_11) ?_
      refine r_call rfl Try.call21 (by simp only [List.map_cons, List.map_nil, List.map_toArray, List.toList_toArray, upd_get, ev, Nat.reduceEqDiff, ↓reduceIte] <;> rfl) (awake19_c _) ?_
      rintro _ w26_12 ⟨rfl, X⟩
      refine ⟨_, rfl, ?_⟩
      replace H := SH.same H X
      clear X
      refine LW.nil (thenE_norm ⟨fun _ => (SH.sub H (by repeat first | exact List.Sublist.refl _ | exact List.nil_sublist _ | apply List.Sublist.cons_cons | apply List.Sublist.cons)), ?_⟩)
      refine DL.take (i := 13) [] rfl (by kernel_rfl) (by kernel_rfl) (by kernel_rfl) (by kernel_rfl) rfl rfl (fun u H => x_pickT rfl hg26_11) (SH.sub H (by repeat first | exact List.Sublist.refl _ | exact List.nil_sublist _ | apply List.Sublist.cons_cons | apply List.Sublist.cons)) ?_
      refine DL.take (i := 14) [] rfl (by kernel_rfl) (by kernel_rfl) (by kernel_rfl) (by kernel_rfl) rfl rfl (fun u H => x_assign ) (SH.sub H (by repeat first | exact List.Sublist.refl _ | exact List.nil_sublist _ | apply List.Sublist.cons_cons | apply List.Sublist.cons)) ?_
      refine DL.done (by kernel_rfl) ?_
      refine thenE_norm ?_
      refine cut (K := K30) [4] (fun σ => ?_)
      simp only [setL, keepE, upd_get, ev, Nat.reduceEqDiff, ↓reduceIte]
      refine h30 _ _ ?_; clear h30; try clear K30
      refine CW.ret (ret1 Try.results5 (by simp only [upd_get, ev, Nat.reduceEqDiff, ↓reduceIte]; rfl) ?_)
      exact ⟨rfl, H.ext⟩
end Go.Proofs.Ytlfbofnfhhddbaa
