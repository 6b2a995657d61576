/-
  Plain mathematics: what takes, frees and drops do to locks, name by name. No walk here.
-/
import Derived.Test.YtaggdlbjgjagbaaVLkE
namespace Go.Proofs.Ytaggdlbjgjagbaa
set_option linter.unusedSimpArgs false
set_option linter.unusedVariables false
set_option maxRecDepth 20000
open Go.V Go.RowKit Go.ChangeShapes Go.WideShapes

theorem shift_set {α : Type} {xs : List α} {j : Nat} {y z : α} (hj : 0 < j) (hz : xs[j - 1]? = some z) :
    (xs.take j ++ y :: xs.drop j)[j - 1]? = some z ∧ (xs.take j ++ y :: xs.drop j).set j z = xs.take (j - 1) ++ z :: xs.drop (j - 1) := by
  have hl := lt_of_get hz
  have h1 : (xs.take j).length = j := by rw [List.length_take]; omega
  have h2 : xs.take j = xs.take (j - 1) ++ [z] := by
    have := V.take_snoc hz
    rwa [show j - 1 + 1 = j by omega] at this
  have h3 : xs.drop (j - 1) = z :: xs.drop j := by
    rw [List.drop_eq_getElem_cons hl, show j - 1 + 1 = j by omega]
    rw [List.getElem?_eq_getElem hl] at hz
    rw [Option.some.inj hz]
  constructor
  · rw [List.getElem?_append_left (by omega), List.getElem?_take, if_pos (by omega), hz]
  · rw [List.set_append_right _ _ (by omega), h1, Nat.sub_self, List.set_cons_zero, h2, h3, List.append_assoc]; rfl
theorem place_set {α : Type} {xs : List α} {k : Nat} {y n : α} (hk : k ≤ xs.length) : (xs.take k ++ y :: xs.drop k)[k]? = some y ∧ (xs.take k ++ y :: xs.drop k).set k n = xs.take k ++ [n] ++ xs.drop k := by
  have h1 : (xs.take k).length = k := by rw [List.length_take]; omega
  constructor
  · rw [List.getElem?_append_right (by omega), h1, Nat.sub_self]; rfl
  · rw [List.set_append_right _ _ (by omega), h1, Nat.sub_self, List.set_cons_zero, List.append_assoc]; rfl
theorem atT_eq {α : Type} {k : α → ByteArray} {l : List α} {n : ByteArray} {i : Nat} (hi : i ≤ l.length) (h1 : ∀ (j : Nat) (x : α), j < i → l[j]? = some x → ltS (k x) n = true) (h2 : ∀ x, l[i]? = some x → ltS (k x) n = false) : i = atT k l n := by
  obtain ⟨q1, q2⟩ := lowT k l n
  have q3 := atT_le k l n
  rcases Nat.lt_trichotomy i (atT k l n) with h | h | h
  · obtain ⟨x, hx⟩ := get_of_lt (show i < l.length by omega)
    have := q1 i x h hx
    rw [h2 x hx] at this; cases this
  · exact h
  · obtain ⟨x, hx⟩ := get_of_lt (show atT k l n < l.length by omega)
    have := h1 _ x h hx
    rw [q2 x hx] at this; cases this
/-- A lock amid others is let go by who has it. -/
theorem free_mid {done r : List Lm} {k : Lm} {t : Int} (hup : UpT Lm.name (done ++ k :: r)) :
    freeM (done ++ k :: r) k.name k.holder t = if k.line = [] then (done ++ r, 0, 0) else (done ++ ⟨k.name, k.line.headD 0, t + 1, k.line.tail⟩ :: r, 1, 0) := by
  have hf := upT_find hup (show k ∈ done ++ k :: r by simp)
  have hp := List.pairwise_append.1 hup
  have hp2 := List.pairwise_cons.1 hp.2.1
  have h1 : ∀ x ∈ done, ltS x.name k.name = true := fun x hx => hp.2.2 x hx k (by simp)
  have h2 : ∀ x ∈ r, ltS k.name x.name = true := fun x hx => hp2.1 x hx
  by_cases hz : k.line = []
  · rw [free_gone hf rfl hz, if_pos hz]
    congr 1
    rw [List.filter_append, List.filter_cons, if_neg (by simp), filt_all (l := done) (fun x hx => by simpa using ltS_ne (h1 x hx)), filt_all (l := r) (fun x hx => by simpa using (ltS_ne (h2 x hx)).symm)]
  · rw [free_next hf rfl hz, if_neg hz]
    congr 1
    exact putT_split (k := Lm.name) (m := ⟨k.name, k.line.headD 0, t + 1, k.line.tail⟩) [k] (by simp) (fun x hx => by rw [List.mem_singleton] at hx; rw [hx]) h1 h2
/-- Which locks are given on. -/
def givN (gone : List Int) (l : List Lm) : Nat := (l.filter fun k => decide (k.holder ∈ gone ∧ k.line ≠ [])).length
theorem giv_snoc {gone : List Int} {l : List Lm} {i : Nat} {k : Lm} (h : l[i]? = some k) : givN gone (l.take (i + 1)) = givN gone (l.take i) + (if k.holder ∈ gone ∧ k.line ≠ [] then 1 else 0) := by
  rw [givN, givN, V.take_snoc h, List.filter_append, List.length_append, List.filter_cons, List.filter_nil]
  by_cases q : k.holder ∈ gone ∧ k.line ≠ []
  · rw [if_pos q, if_pos (decide_eq_true q)]; rfl
  · rw [if_neg q, if_neg (by rw [decide_eq_false q]; exact Bool.false_ne_true)]; rfl
theorem giv_le (gone : List Int) (l : List Lm) : givN gone l ≤ l.length := List.length_filter_le _ _
theorem drop_cnt {gone : List Int} {tok : Int} : ∀ (l : List Lm) (g : Int), (dropM gone tok l g).2 = g + givN gone l
  | [], g => by rw [dropM, givN]; simp
  | k :: r, g => by
    have e : givN gone (k :: r) = (if k.holder ∈ gone ∧ k.line ≠ [] then 1 else 0) + givN gone r := by
      rw [givN, List.filter_cons]
      by_cases q : k.holder ∈ gone ∧ k.line ≠ []
      · rw [if_pos q, if_pos (decide_eq_true q), List.length_cons, givN]; omega
      · rw [if_neg q, if_neg (by rw [decide_eq_false q]; exact Bool.false_ne_true), givN]; omega
    rw [e, dropM]
    by_cases h1 : k.holder ∈ gone
    · rw [if_pos h1]
      by_cases h2 : k.line = []
      · rw [if_pos h2, drop_cnt r g, if_neg (fun q => q.2 h2)]; omega
      · rw [if_neg h2, if_pos ⟨h1, h2⟩]
        show (dropM gone tok r (g + 1)).2 = _
        rw [drop_cnt r (g + 1)]; omega
    · rw [if_neg h1, if_neg (fun q => h1 q.1)]
      show (dropM gone tok r g).2 = _
      rw [drop_cnt r g]; omega
theorem drop_names {gone : List Int} {tok : Int} : ∀ (l : List Lm) (g : Int), ((dropM gone tok l g).1.map Lm.name).Sublist (l.map Lm.name)
  | [], g => by rw [dropM]; exact List.Sublist.refl _
  | k :: r, g => by
    rw [dropM, List.map_cons]
    by_cases h1 : k.holder ∈ gone
    · rw [if_pos h1]
      by_cases h2 : k.line = []
      · rw [if_pos h2]; exact (drop_names r g).trans (List.sublist_cons_self ..)
      · rw [if_neg h2]; exact (drop_names r (g + 1)).cons_cons _
    · rw [if_neg h1]; exact (drop_names r g).cons_cons _
theorem drop_up {gone : List Int} {tok : Int} {l : List Lm} {g : Int} (h : UpT Lm.name l) : UpT Lm.name (dropM gone tok l g).1 := upT_names h (drop_names l g)
/-- Who goes has no lock behind it. -/
theorem drop_free {gone : List Int} {tok : Int} : ∀ (l : List Lm) (g : Int), (∀ m ∈ l, ∀ c ∈ m.line, c ∉ gone) → ∀ m ∈ (dropM gone tok l g).1, m.holder ∉ gone
  | [], g, _, m, hm => by rw [dropM] at hm; cases hm
  | k :: r, g, h, m, hm => by
    have hr : ∀ m ∈ r, ∀ c ∈ m.line, c ∉ gone := fun m hm => h m (by simp [hm])
    rw [dropM] at hm
    by_cases h1 : k.holder ∈ gone
    · rw [if_pos h1] at hm
      by_cases h2 : k.line = []
      · rw [if_pos h2] at hm; exact drop_free r g hr m hm
      · rw [if_neg h2] at hm
        rcases List.mem_cons.1 hm with rfl | hm
        · obtain ⟨x, t, e⟩ := List.exists_cons_of_ne_nil h2
          rw [e]
          exact h k (by simp) x (by rw [e]; simp)
        · exact drop_free r (g + 1) hr m hm
    · rw [if_neg h1] at hm
      rcases List.mem_cons.1 hm with rfl | hm
      · exact h1
      · exact drop_free r g hr m hm
theorem drop_find {gone : List Int} {tok : Int} : ∀ (l : List Lm) (g : Int) (i : Nat) (k : Lm), UpT Lm.name l → l[i]? = some k →
    (k.holder ∉ gone → k ∈ (dropM gone tok l g).1) ∧ (k.holder ∈ gone → k.line = [] → ∀ m ∈ (dropM gone tok l g).1, m.name ≠ k.name) ∧
    (k.holder ∈ gone → k.line ≠ [] → (⟨k.name, k.line.headD 0, tok + (g + givN gone (l.take i)) + 1, k.line.tail⟩ : Lm) ∈ (dropM gone tok l g).1)
  | [], g, i, k, _, h => by simp at h
  | x :: r, g, 0, k, hup, h => by
    simp only [List.getElem?_cons_zero, Option.some.injEq] at h
    subst h
    have hp := List.pairwise_cons.1 hup
    rw [dropM]
    refine ⟨fun h1 => by rw [if_neg h1]; simp, fun h1 h2 m hm => ?_, fun h1 h2 => ?_⟩
    · rw [if_pos h1, if_pos h2] at hm
      have := (drop_names r g).subset (List.mem_map_of_mem (f := Lm.name) hm)
      obtain ⟨y, hy, e⟩ := List.mem_map.1 this
      rw [← e]
      exact (ltS_ne (hp.1 y hy)).symm
    · rw [if_pos h1, if_neg h2, List.take_zero]
      simp [givN]
  | x :: r, g, i + 1, k, hup, h => by
    have hp := List.pairwise_cons.1 hup
    have hk : r[i]? = some k := by simpa using h
    have hkr := List.mem_of_getElem? hk
    have hne : x.name ≠ k.name := ltS_ne (hp.1 k hkr)
    have e : givN gone ((x :: r).take (i + 1)) = (if x.holder ∈ gone ∧ x.line ≠ [] then 1 else 0) + givN gone (r.take i) := by
      rw [List.take_succ_cons, givN, List.filter_cons]
      by_cases q : x.holder ∈ gone ∧ x.line ≠ []
      · rw [if_pos q, if_pos (decide_eq_true q), List.length_cons, givN]; omega
      · rw [if_neg q, if_neg (by rw [decide_eq_false q]; exact Bool.false_ne_true), givN]; omega
    rw [e, dropM]
    by_cases h1 : x.holder ∈ gone
    · rw [if_pos h1]
      by_cases h2 : x.line = []
      · rw [if_pos h2, if_neg (fun q => q.2 h2)]
        have ih := drop_find (gone := gone) (tok := tok) r g i k hp.2 hk
        rw [Nat.zero_add]
        exact ih
      · rw [if_neg h2, if_pos ⟨h1, h2⟩]
        obtain ⟨i1, i2, i3⟩ := drop_find (gone := gone) (tok := tok) r (g + 1) i k hp.2 hk
        dsimp only
        refine ⟨fun q => by simp [i1 q], fun q q2 m hm => ?_, fun q q2 => ?_⟩
        · rcases List.mem_cons.1 hm with rfl | hm
          · exact hne
          · exact i2 q q2 m hm
        · have := i3 q q2
          rw [show tok + (g + ((1 + givN gone (r.take i) : Nat) : Int)) + 1 = tok + (g + 1 + (givN gone (r.take i) : Nat)) + 1 by omega]
          exact List.mem_cons_of_mem _ this
    · rw [if_neg h1, if_neg (fun q => h1 q.1)]
      obtain ⟨i1, i2, i3⟩ := drop_find (gone := gone) (tok := tok) r g i k hp.2 hk
      dsimp only
      rw [Nat.zero_add]
      refine ⟨fun q => by simp [i1 q], fun q q2 m hm => ?_, fun q q2 => List.mem_cons_of_mem _ (i3 q q2)⟩
      rcases List.mem_cons.1 hm with rfl | hm
      · exact hne
      · exact i2 q q2 m hm
theorem findL_mem {ms : List Lm} {n : ByteArray} {m : Lm} (h : UpT Lm.name ms) (hm : m ∈ ms) (hn : m.name = n) : findL ms n = (m, true) := by
  subst hn; exact findL_some (upT_find h hm)
theorem findL_no {ms : List Lm} {n : ByteArray} (h : ∀ m ∈ ms, m.name ≠ n) : findL ms n = (⟨⟨#[]⟩, 0, 0, []⟩, false) := findL_none (findT_no h)
/-- What a lock of a list becomes as some go. -/
theorem drop_at {gone : List Int} {tok : Int} {ms : List Lm} {i : Nat} {k : Lm} (hup : UpT Lm.name ms) (hk : ms[i]? = some k) :
    (k.holder ∉ gone → findL (dropM gone tok (ms.map (woL gone)) 0).1 k.name = (woL gone k, true)) ∧
    (k.holder ∈ gone → (woL gone k).line = [] → (findL (dropM gone tok (ms.map (woL gone)) 0).1 k.name).2 = false) ∧
    (k.holder ∈ gone → (woL gone k).line ≠ [] → findL (dropM gone tok (ms.map (woL gone)) 0).1 k.name = (⟨k.name, (woL gone k).line.headD 0, tok + (givN gone ((ms.map (woL gone)).take i) : Nat) + 1, (woL gone k).line.tail⟩, true)) := by
  have hw : UpT Lm.name (ms.map (woL gone)) := upT_names hup (by rw [List.map_map]; exact List.Sublist.refl _)
  have hd := drop_up (gone := gone) (tok := tok) (g := 0) hw
  have hk2 : (ms.map (woL gone))[i]? = some (woL gone k) := by rw [List.getElem?_map, hk]; rfl
  obtain ⟨i1, i2, i3⟩ := drop_find (gone := gone) (tok := tok) _ 0 i _ hw hk2
  refine ⟨fun q => findL_mem hd (i1 q) rfl, fun q q2 => by rw [findL_no (n := k.name) (i2 q q2)], fun q q2 => ?_⟩
  have := i3 q q2
  rw [Int.zero_add] at this
  exact findL_mem hd this rfl
theorem joinM_eq {l : List Int} {c : Int} (hc : 0 ≤ c ∧ c < 8) (hn : ¬ c ∈ l) : joinM l c = if 3 ≤ l.length then ([], 0, 5) else (l ++ [c], (l.length : Int), 0) := by
  rw [joinM, if_neg (by rw [client_iff.2 hc]; decide), if_neg hn]
theorem erase_filt {c : Int} : ∀ {l : List Int}, l.Nodup → l.filter (fun x => !decide (x ∈ [c])) = l.erase c
  | [], _ => rfl
  | x :: l, h => by
    have h2 := List.nodup_cons.1 h
    rw [List.filter_cons, List.erase_cons, erase_filt h2.2]
    by_cases e : x = c
    · subst e
      rw [if_neg (by simp), if_pos (by simp), List.erase_of_not_mem h2.1]
    · rw [if_pos (by simp [e]), if_neg (by simpa using e)]
theorem names6_no (m : Int) (h : 0 ≤ m) : nameOf m ≠ ByteArray.mk #[110, 111, 116, 45, 116, 104, 101, 114, 101] ∧ nameOf m ≠ ByteArray.mk #[111, 110, 101, 45, 109, 111, 114, 101] := by
  unfold nameOf
  rcases six m h with h | h | h | h | h | h <;> rw [h] <;> decide +kernel
end Go.Proofs.Ytaggdlbjgjagbaa
