/-
  What came in as data, opened: rows of things of any number of Row.cells. No program here.
-/
import Derived.Test.YtaggdlbjgjagbaaVSepF
import Derived.Test.YtaggdlbjgjagbaaVRow
namespace Go.V
set_option linter.unusedSimpArgs false
set_option linter.unusedVariables false
open Go.RowKit Go.ChangeShapes Go.WideShapes

/-- What reads as data of a type is one of ours. -/
def Opens (P : Program) {α : Type} [Row α] (t : TypeId) (Good : World → α → Prop) : Prop :=
  ∀ (H : Type) (enc : TypeId × Value → H) (w : World) (base : Nat) (spare : Nat → Bool) (held : Bool) (fuel : Nat) (cs : List Value) (x : DataW H × List MemPlace), cs.length = Row.sz α → DataW.trod enc P w base spare held fuel t cs = some x →
    ∃ a : α, Row.cells a = cs ∧ (Row.cells a).all oneC = true ∧ Good w a
theorem addr_plain {w : World} {a : Addr} {u : Value} (h : w.cell? a = some u) : a = ⟨a.block, a.off, none⟩ := by
  obtain ⟨b, o, sp⟩ := a
  cases sp with
  | none => rfl
  | some s => exfalso; simp only [World.cell?] at h; split at h <;> simp at h
theorem choose_list {β : Type} {Q : Nat → β → Prop} : ∀ {len : Nat}, (∀ i, i < len → ∃ y, Q i y) → ∃ xs : List β, xs.length = len ∧ ∀ i y, xs[i]? = some y → Q i y
  | 0, _ => ⟨[], rfl, by simp⟩
  | k + 1, each => by
    obtain ⟨xs, hxl, hx⟩ := choose_list (len := k) (fun i hi => each i (by omega))
    obtain ⟨y, hy⟩ := each k (by omega)
    refine ⟨xs ++ [y], by simp [hxl], fun i z hz => ?_⟩
    by_cases hik : i < xs.length
    · rw [List.getElem?_append_left hik] at hz; exact hx i z hz
    · rw [List.getElem?_append_right (by omega)] at hz
      have : i - xs.length = 0 := by
        have := (List.getElem?_eq_some_iff.1 hz).1
        simp at this; omega
      rw [this] at hz
      simp at hz
      subst hz
      rw [show i = k from by omega]; exact hy
theorem Opens.rows {P : Program} {β : Type} [Row β] {t e : TypeId} {Good : World → β → Prop} (ht : P.underlying t = some (.slice e)) (he : Opens P (α := β) e Good) (hC : P.cellsOf e = Row.sz β)
    {H : Type} {enc : TypeId × Value → H} {w : World} {base : Nat} {spare : Nat → Bool} {held : Bool} {fuel : Nat} {cs : List Value} {x : DataW H × List MemPlace} (h : DataW.trod enc P w base spare held fuel t cs = some x) :
    ∃ (v : Value) (xs : List β), cs = [v] ∧ Rs (Old w) w v xs ∧ ∀ y ∈ xs, Good w y := by
  rcases DataW.trod_slice ht h with ⟨rfl, _⟩ | ⟨a, len, cap, elems, rest, n, _, rfl, _, hb, hl, hm, hel, hget, _, _⟩
  · exact ⟨_, [], rfl, Rs.nil, by simp⟩
  · refine ⟨.slice (some a) len cap, ?_⟩
    have each : ∀ i, i < len → ∃ y : β, (Row.cells y).all oneC = true ∧ Good w y ∧ ∀ j u, (Row.cells y)[j]? = some u → w.cell? ((a.add (i * Row.sz β)).add j) = some u := by
      intro i hi
      have h1 := hget i hi
      rw [List.getElem?_eq_getElem (by omega)] at h1
      obtain ⟨cs', hc, h2⟩ := Option.bind_eq_some_iff.1 h1
      obtain ⟨_, hcl, hat⟩ := World.cells?_some hc
      obtain ⟨y, hy, ho, hg⟩ := he H enc w base spare held n cs' _ (hcl.trans hC) h2
      refine ⟨y, ho, hg, fun j u hj => ?_⟩
      rw [hy] at hj
      have hjl := (List.getElem?_eq_some_iff.1 hj).1
      rw [hC] at hat
      rw [hat j (by rw [hcl, hC] at hjl; exact hjl), hj]
    have hxs := choose_list each
    obtain ⟨xs, hxl, hx⟩ := hxs
    refine ⟨xs, rfl, ⟨⟨some a, cap, by rw [hxl], by omega, hm, ?_⟩, fun y hy => ?_⟩, fun y hy => ?_⟩
    · cases xs with
      | nil => exact .inl rfl
      | cons y0 r =>
        right
        have h0 := (hx 0 y0 rfl).2.2
        have hp : 0 < Row.sz β := Nat.le_of_ble_eq_true Row.pos
        have hc0 := h0 0 _ (List.getElem?_eq_getElem (by rw [Row.len]; exact hp))
        simp only [Nat.zero_mul] at hc0
        have e0 : (a.add 0).add 0 = a := by unfold Addr.add; simp
        rw [e0] at hc0
        have ea := addr_plain hc0
        refine ⟨a.block, a.off, by rw [← ea], World.block_lt_of_cell? _ _ hc0, Cells.of fun q u hq => ?_⟩
        have hql := (List.getElem?_eq_some_iff.1 hq).1
        rw [flat_len] at hql
        have hqi : q / Row.sz β < (y0 :: r).length := Nat.div_lt_of_lt_mul (by rw [Nat.mul_comm]; exact hql)
        obtain ⟨y, hy⟩ := get_of_lt hqi
        have hqm : q % Row.sz β < Row.sz β := Nat.mod_lt _ hp
        have hdm : q / Row.sz β * Row.sz β + q % Row.sz β = q := by rw [Nat.mul_comm]; exact Nat.div_add_mod q _
        have hg := flat_get hy (q % Row.sz β) hqm
        rw [hdm, hq] at hg
        have := (hx _ y hy).2.2 (q % Row.sz β) u hg.symm
        rw [ea, addr_add, addr_add] at this
        rw [show a.off + q = a.off + q / Row.sz β * Row.sz β + q % Row.sz β from by omega]
        exact this
    · obtain ⟨i, hi⟩ := List.mem_iff_getElem?.1 hy
      exact (hx i y hi).1
    · obtain ⟨i, hi⟩ := List.mem_iff_getElem?.1 hy
      exact (hx i y hi).2.1

def I64 (a : Int) : Prop := -9223372036854775808 ≤ a ∧ a ≤ 9223372036854775807
theorem i64_wf {a : Int} (h : (Lit.int .i64 a).wf = true) : I64 a := by
  simp [Lit.wf, IntKind.min, IntKind.max, IntKind.bits, IntKind.signed] at h
  unfold I64; omega
theorem u8_wf {a : Int} (h : (Lit.int .u8 a).wf = true) : ∃ x : UInt8, Value.int .u8 a = u8v x := by
  simp [Lit.wf, IntKind.min, IntKind.max, IntKind.bits, IntKind.signed] at h
  refine ⟨UInt8.ofNat a.toNat, ?_⟩
  rw [u8v, UInt8.toNat_ofNat']
  congr 1; omega
theorem opens_i64 {P : Program} {t : TypeId} (ht : P.underlying t = some (.int .i64)) : Opens P (α := Int) t (fun _ a => I64 a) := fun H enc w base spare held fuel cs x _ h => by
  obtain ⟨n, rfl, _, hw⟩ := DataW.trod_int ht h
  exact ⟨n, rfl, rfl, i64_wf hw⟩
theorem opens_u8 {P : Program} {t : TypeId} (ht : P.underlying t = some (.int .u8)) : Opens P (α := UInt8) t (fun _ _ => True) := fun H enc w base spare held fuel cs x _ h => by
  obtain ⟨n, rfl, _, hw⟩ := DataW.trod_int ht h
  obtain ⟨y, hy⟩ := u8_wf hw
  exact ⟨y, by rw [hy]; rfl, rfl, trivial⟩
theorem opens_string {P : Program} {t : TypeId} (ht : P.underlying t = some .string) : Opens P (α := ByteArray) t (fun _ a => a.size ≤ 9223372036854775807) := fun H enc w base spare held fuel cs x _ h => by
  obtain ⟨s, rfl, _, hw⟩ := DataW.trod_string ht h
  exact ⟨s, rfl, rfl, by simpa [maxLen] using hw⟩
theorem opens_bool {P : Program} {t : TypeId} (ht : P.underlying t = some .bool) : Opens P (α := Bool) t (fun _ _ => True) := fun H enc w base spare held fuel cs x _ h => by
  obtain ⟨s, rfl, _⟩ := DataW.trod_bool ht h
  exact ⟨s, rfl, rfl, trivial⟩
/-- A slice that is itself an element of a row. -/
structure Sv where
  v : Value
instance : Row Sv := ⟨1, fun s => [s.v], ⟨.slice none 0 0⟩, fun _ => rfl, rfl⟩
theorem opens_slice {P : Program} {β : Type} [Row β] {t e : TypeId} {Good : World → β → Prop} (ht : P.underlying t = some (.slice e)) (he : Opens P (α := β) e Good) (hC : P.cellsOf e = Row.sz β) :
    Opens P (α := Sv) t (fun w s => ∃ xs : List β, Rs (Old w) w s.v xs ∧ ∀ y ∈ xs, Good w y) := fun H enc w base spare held fuel cs x _ h => by
  obtain ⟨v, xs, rfl, hr, hg⟩ := Opens.rows ht he hC h
  exact ⟨⟨v⟩, rfl, by simp [Row.cells, Row.cells, hr.oneC], xs, hr, hg⟩
theorem list8 {l : List Value} (h : l.length = 8) : ∃ a b c d e f g i, l = [a, b, c, d, e, f, g, i] := by match l, h with | [a, b, c, d, e, f, g, i], _ => exact ⟨a, b, c, d, e, f, g, i, rfl⟩
theorem list9 {l : List Value} (h : l.length = 9) : ∃ a b c d e f g i j, l = [a, b, c, d, e, f, g, i, j] := by match l, h with | [a, b, c, d, e, f, g, i, j], _ => exact ⟨a, b, c, d, e, f, g, i, j, rfl⟩
/-- An argument of a slice's type. -/
theorem open_rows {P : Program} {β : Type} [Row β] {t e : TypeId} {Good : World → β → Prop} (ht : P.underlying t = some (.slice e)) (he : Opens P (α := β) e Good) (hC : P.cellsOf e = Row.sz β)
    {H : Type} {enc : TypeId × Value → H} {w : World} {base : Nat} {spare : Nat → Bool} {held : Bool} {r : Reach} {b0 : Nat} {v : Value} {d : DataW H} {p : List MemPlace} (hv : Value.okWide P w r b0 t v) (h : DataW.Trod enc P w base spare held t v d p) :
    ∃ xs : List β, Rs (Old w) w v xs ∧ ∀ y ∈ xs, Good w y := by
  obtain ⟨a, len, cap, rfl⟩ := okWide_slice ht hv
  obtain ⟨fuel, hf⟩ := h
  obtain ⟨v, xs, e, hr, hg⟩ := Opens.rows ht he hC hf
  simp [Value.cells] at e
  exact ⟨xs, e ▸ hr, hg⟩
/-- .. of a struct's. -/
def agg {α : Type} [Row α] (a : α) : Value := .agg (Row.cells a).toArray
theorem open_agg {P : Program} {α : Type} [Row α] {t : TypeId} {fs : Array Field} {Good : World → α → Prop} (ht : P.underlying t = some (.struct fs)) (he : Opens P (α := α) t Good) (hC : P.cellsOf t = Row.sz α)
    {H : Type} {enc : TypeId × Value → H} {w : World} {base : Nat} {spare : Nat → Bool} {held : Bool} {r : Reach} {b0 : Nat} {v : Value} {d : DataW H} {p : List MemPlace} (hv : Value.okWide P w r b0 t v) (h : DataW.Trod enc P w base spare held t v d p) :
    ∃ a : α, v = agg a ∧ (Row.cells a).all oneC = true ∧ Good w a := by
  obtain ⟨l, rfl, hl, n, x, hx⟩ := open_struct ht hv h
  obtain ⟨a, rfl, ho, hg⟩ := he H enc w base spare held n l x (hl.trans hC) hx
  exact ⟨a, rfl, ho, hg⟩
end Go.V
