/-
  How long a list within a row that comes in can be: the reach of an argument. No program here.
-/
import Derived.Test.YtalieccfdmokmaaVSized
namespace Go.V
set_option linter.unusedSimpArgs false
set_option linter.unusedVariables false
open Go.RowKit Go.ChangeShapes Go.WideShapes Go.ChangeAt

theorem weights_all {H : Type} {P : Program} {e : TypeId} {n : Nat} : ∀ {ds : List (DataW H)} {k : Nat} {d : DataW H}, ds[k]? = some d → n ∈ d.weights P e → n ∈ DataW.weightsAll P e ds
  | d0 :: ds, 0, d, hd, hn => by
    simp only [List.getElem?_cons_zero, Option.some.injEq] at hd
    subst hd
    simp only [DataW.weightsAll, List.mem_append]
    exact .inl hn
  | d0 :: ds, k + 1, d, hd, hn => by
    simp only [List.getElem?_cons_succ] at hd
    simp only [DataW.weightsAll, List.mem_append]
    exact .inr (weights_all hd hn)
  | [], _, _, hd, _ => by simp at hd
theorem addB (a : Addr) (n : Nat) : (a.add n).block = a.block := by unfold Addr.add; split <;> rfl
theorem addO (a : Addr) (n : Nat) : (a.add n).off = a.off + n := by
  unfold Addr.add
  split
  · rename_i h; rw [h, Nat.add_zero]
  · rfl
theorem sized_nested {P : Program} {α β : Type} [Row α] [Row β] {t e e2 : TypeId} {fs : Array Field} {f : Field} {i : Nat} {H : Type} {enc : TypeId × Value → H} {w : World} {base : Nat} {spare : Nat → Bool} {held : Bool} {v : Value} {d : DataW H} {p : List MemPlace} {F : Nat → Prop} {xs : List α} {ts : List TypeId} {ds : List (DataW H)} {j : Nat}
    (hu : P.underlying t = some (.slice e)) (he : P.underlying e = some (.struct fs)) (hf : fs[i]? = some f) (hu2 : P.underlying f.type = some (.slice e2)) (hC : P.cellsOf e = Row.sz α) (hC2 : P.cellsOf f.type = 1)
    (h : DataW.Trod enc P w base spare held t v d p) (hr : Rs F w v xs) (hsz : (DataW.weightsEach P ts ds).all (· ≤ reachBytes) = true) (hts : ts[j]? = some t) (hds : ds[j]? = some d) (hb : 1 ≤ P.bytesOf e2) :
    ∀ x ∈ xs, ∀ (G : Nat → Prop) (u : Value) (ys : List β), (Row.cells x)[f.offset]? = some u → Rs G w u ys → ys.length ≤ 140737488355328 := by
  intro x hx G u ys hxu hy
  obtain ⟨k, hk⟩ := List.mem_iff_getElem?.1 hx
  have hkl := lt_of_get hk
  obtain ⟨ao, cap, rfl, h1, h2⟩ := hr.shape
  have hfo : f.offset < Row.sz α := by have := lt_of_get hxu; rw [Row.len] at this; exact this
  have hcell := fun o u' (hu' : (Row.cells x)[o]? = some u') => hr.cell hk hu'
  obtain ⟨fuel, hfu⟩ := h
  rcases DataW.trod_slice hu hfu with ⟨e1, e3⟩ | ⟨a, len, cap', elems, rest, n, _, e1, e3, _, _, _, hl, hget, _, _⟩
  · simp [Value.cells] at e1
    omega
  · simp [Value.cells] at e1
    obtain ⟨ha, e1, _⟩ := e1
    subst ha
    simp only [Prod.mk.injEq] at e3
    obtain ⟨rfl, _⟩ := e3
    have g1 := hget k (by omega)
    rw [List.getElem?_eq_getElem (by omega)] at g1
    obtain ⟨cs', hc, g2⟩ := Option.bind_eq_some_iff.1 g1
    obtain ⟨_, hcl, hat⟩ := World.cells?_some hc
    rw [hC] at hat hcl
    have hcu : cs'[f.offset]? = some u := by
      have q1 := hcell f.offset u hxu
      have q2 := hat f.offset hfo
      rw [← q2]
      have q0 : ∃ u0, w.cell? ((a.add (k * Row.sz α)).add f.offset) = some u0 := ⟨_, q2.trans (List.getElem?_eq_getElem (by omega))⟩
      have hplain : (a.add (k * Row.sz α)).add f.offset = ⟨a.block, a.off + k * Row.sz α + f.offset, none⟩ := by
        obtain ⟨u0, hu0⟩ := q0
        have := addr_plain hu0
        rw [this, addB, addB, addO, addO]
      rw [hplain]
      exact q1
    obtain ⟨ys2, n2, _, hy2, _, hyl, hyf⟩ := DataW.trod_struct he g2
    have g3 := hyf i f hf
    rw [hC2] at g3
    have hil : i < ys2.length := by rw [hyl]; exact (Array.getElem?_eq_some_iff.1 hf).1
    rw [List.getElem?_eq_getElem hil] at g3
    have hone : (cs'.drop f.offset).take 1 = [u] := by
      have hlt : f.offset < cs'.length := by omega
      rw [List.drop_eq_getElem_cons hlt, List.take_succ_cons, List.take_zero]
      rw [List.getElem?_eq_getElem hlt] at hcu
      rw [Option.some.inj hcu]
    rw [hone] at g3
    obtain ⟨ao2, cap2, rfl, k1, k2⟩ := hy.shape
    rcases DataW.trod_slice hu2 g3 with ⟨c1, _⟩ | ⟨a2, len2, cap3, elems2, rest2, n3, _, c1, c3, _, _, _, hl2, _⟩
    · simp at c1; omega
    · simp only [List.cons.injEq, Value.slice.injEq, and_true] at c1
      obtain ⟨_, c1, _⟩ := c1
      have m1 : (elems2.length + rest2.length) * P.bytesOf e2 ∈ (ys2[i].1).weights P f.type := by
        rw [c3]
        simp [DataW.weights, hu2]
      have m2 : (elems2.length + rest2.length) * P.bytesOf e2 ∈ (elems[k].1).weights P e := by
        rw [hy2]
        simp only [DataW.weights, he]
        exact DataW.weights_mem_each (j := i) (t := f.type) (d := ys2[i].1) (by rw [List.getElem?_map]; simp only [Array.getElem?_toList, hf]; rfl) (by rw [List.getElem?_map, List.getElem?_eq_getElem hil]; rfl) _ m1
      have m3 : (elems2.length + rest2.length) * P.bytesOf e2 ∈ (DataW.slice (elems.map (·.1)) (rest.map (·.1))).weights P t := by
        simp only [DataW.weights, hu, List.mem_cons, List.mem_append]
        exact .inr (.inl (weights_all (k := k) (d := elems[k].1) (by rw [List.getElem?_map, List.getElem?_eq_getElem (by omega)]; rfl) m2))
      have m4 := List.all_eq_true.1 hsz _ (DataW.weights_mem_each hts hds _ m3)
      have hb2 := Nat.mul_le_mul_left (elems2.length + rest2.length) hb
      have hR : reachBytes ≤ 140737488355328 := by decide
      have m5 := of_decide_eq_true m4
      omega
end Go.V
