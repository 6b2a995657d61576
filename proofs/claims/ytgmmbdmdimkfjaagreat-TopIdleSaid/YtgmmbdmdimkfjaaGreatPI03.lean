/-
  Plain mathematics of layer 1: what numbers, bytes and texts are put as, and what is read. No program here; What a slice of bytes that came in is to the walks: a list of bytes; Plain mathematics of layer 1's laws: the order of numbers' bytes; a number put is read as it was. No program here; Slices of whole numbers, as Bs is for bytes. No program here; Rows of things of several cells; what is known of memory as a list of chunks that lie apart. No statement of the claim stands here: these are rules, whatever the program; What becomes of the chunks by what is done: the rules. No statement of the claim stands here: these are rules, whatever the program
-/
import Derived.Test.YtgmmbdmdimkfjaaGreatPI02
namespace Go.V
set_option linter.unusedSimpArgs false
set_option linter.unusedVariables false
def Bs (F : Nat → Prop) (w : World) (v : Value) (xs : List UInt8) : Prop := Sl F w v xs.length (xs.map u8v)
def New (w : World) : Nat → Prop := fun b => w.heap.size ≤ b
theorem Bs.up {F W : Nat → Prop} {w w' : World} {v : Value} {xs : List UInt8} (h : Bs F w v xs) (e : Ext W w w') (hd : ∀ b, F b → ¬ W b) : Bs F w' v xs := Sl.up h e hd
theorem Bs.up0 {F : Nat → Prop} {w w' : World} {v : Value} {xs : List UInt8} (h : Bs F w v xs) (e : Ext0 w w') : Bs F w' v xs := Sl.up0 h e
theorem Bs.nil {F : Nat → Prop} {w : World} : Bs F w (.slice none 0 0) [] := Sl.nil
/-- The cell of a byte. -/
theorem Bs.cell {F : Nat → Prop} {w : World} {v : Value} {xs : List UInt8} (h : Bs F w v xs) : ∃ ao cap, v = .slice ao xs.length cap ∧ xs.length ≤ cap ∧ cap ≤ 9223372036854775807 ∧
    (xs = [] ∨ ∃ b o, ao = some ⟨b, o, none⟩ ∧ F b ∧ ∀ i : Nat, i < xs.length → w.cell? ⟨b, o + i * 1, none⟩ = some (.int .u8 (xs.getD i 0).toNat)) := by
  obtain ⟨ao, cap, rfl, h1, h2, h3⟩ := h
  refine ⟨ao, cap, rfl, h1, by simpa [maxLen] using h2, ?_⟩
  rcases h3 with h3 | ⟨b, o, rfl, hF, hc⟩
  · exact .inl (by simpa using h3)
  · refine .inr ⟨b, o, rfl, hF, fun i hi => ?_⟩
    rw [Nat.mul_one]
    exact hc.get i _ (by simp [hi, u8v])
/-- The cells of PutNum's array behind i rounds. -/
def pn (n i : Nat) : List Value := (List.range 8).map fun j => if j < i then u8v (UInt8.ofNat (n / 256 ^ (7 - j))) else .int .u8 0
def roomM (xs : List UInt8) (at_ n : Int) : Prop := 0 ≤ at_ ∧ at_ ≤ xs.length ∧ n ≤ xs.length - at_
instance (xs : List UInt8) (at_ n : Int) : Decidable (roomM xs at_ n) := by unfold roomM; infer_instance
end Go.V
namespace Go.V
set_option linter.unusedSimpArgs false
set_option linter.unusedVariables false
open Go.RowKit
end Go.V
namespace Go.V
set_option linter.unusedSimpArgs false
set_option linter.unusedVariables false
open Go.RowKit
theorem Bs.src {P : Program} {F : Nat → Prop} {w : World} {v : Value} {xs : List UInt8} (h : Bs F w v xs) : Src P 1 w v xs.length (xs.map u8v) :=
  Src.slice h (by simp) (by simp [u8v, oneC])
/-- A cell of a list of bytes that is ours: it may be written. -/
theorem Own.cellB {E : TypeId} {w : World} {v : Value} {ys : List UInt8} {g : Option Nat} {n : Nat} (h : Own E 1 w v n (ys.map u8v) g) (i : Nat) (hi : i < ys.length) :
    ∃ b cap cur, g = some b ∧ v = .slice (some ⟨b, 0, none⟩) n cap ∧ Blk w b E cur ∧ i < cur.length ∧ w.cell? ⟨b, 0 + i * 1, none⟩ = some (.int .u8 (ys.getD i 0).toNat) ∧
      ∀ w' y, Blk w' b E (cur.set i (u8v y)) → Own E 1 w' v n ((ys.set i y).map u8v) g := by
  obtain ⟨hl, ⟨rfl, rfl, rfl⟩ | ⟨b, cap, cur, rfl, rfl, h3, h4, h5, h6, h7⟩⟩ := h
  · simp at hl; subst hl; simp at hi
  · have hn : ys.length = n := by simpa using hl
    have hcur : cur.toList.length = cap * 1 := by simpa using h6
    refine ⟨b, cap, cur.toList, rfl, rfl, by simpa [Blk] using h3, by omega, ?_, fun w' y hb => ?_⟩
    · rw [cell_of_row w b _ cur E (0, 0) h3, Nat.zero_add, Nat.mul_one]
      have : (cur.toList.take (n * 1))[i]? = some (u8v (ys.getD i 0)) := by rw [h7]; simp [hi]
      rw [List.getElem?_take, if_pos (by omega)] at this
      simpa [u8v] using this
    · refine ⟨by simp; omega, .inr ⟨b, cap, (cur.toList.set i (u8v y)).toArray, rfl, rfl, hb, h4, h5, by simpa using h6, ?_⟩⟩
      show (cur.toList.set i (u8v y)).take (n * 1) = _
      rw [List.take_set, h7, List.map_set]
end Go.V
namespace Go.V
set_option linter.unusedSimpArgs false
set_option linter.unusedVariables false
open Go.RowKit
def i64v (x : Int) : Value := .int .i64 x
def Is (F : Nat → Prop) (w : World) (v : Value) (xs : List Int) : Prop := Sl F w v xs.length (xs.map i64v)
theorem Is.up {F W : Nat → Prop} {w w' : World} {v : Value} {xs : List Int} (h : Is F w v xs) (e : Ext W w w') (hd : ∀ b, F b → ¬ W b) : Is F w' v xs := Sl.up h e hd
theorem Is.up0 {F : Nat → Prop} {w w' : World} {v : Value} {xs : List Int} (h : Is F w v xs) (e : Ext0 w w') : Is F w' v xs := Sl.up0 h e
theorem Is.nil {F : Nat → Prop} {w : World} : Is F w (.slice none 0 0) [] := Sl.nil
/-- The cell of a number. -/
theorem Is.cell {F : Nat → Prop} {w : World} {v : Value} {xs : List Int} (h : Is F w v xs) : ∃ ao cap, v = .slice ao xs.length cap ∧ xs.length ≤ cap ∧ cap ≤ 9223372036854775807 ∧
    (xs = [] ∨ ∃ b o, ao = some ⟨b, o, none⟩ ∧ F b ∧ ∀ i : Nat, i < xs.length → w.cell? ⟨b, o + i * 1, none⟩ = some (.int .i64 (xs.getD i 0))) := by
  obtain ⟨ao, cap, rfl, h1, h2, h3⟩ := h
  refine ⟨ao, cap, rfl, h1, by simpa [maxLen] using h2, ?_⟩
  rcases h3 with h3 | ⟨b, o, rfl, hF, hc⟩
  · exact .inl (by simpa using h3)
  · refine .inr ⟨b, o, rfl, hF, fun i hi => ?_⟩
    rw [Nat.mul_one]
    exact hc.get i _ (by simp [hi, i64v])
theorem Is.src {P : Program} {F : Nat → Prop} {w : World} {v : Value} {xs : List Int} (h : Is F w v xs) : Src P 1 w v xs.length (xs.map i64v) :=
  Src.slice h (by simp) (by simp [i64v, oneC])
theorem Is.cut {F : Nat → Prop} {w : World} {ao : Option Addr} {cap : Nat} {xs : List Int} (h : Is F w (.slice ao xs.length cap) xs) (l k : Nat) (h1 : l ≤ k) (h2 : k ≤ xs.length) :
    Is F w (.slice (if cap = l then ao else ao.map (·.add (l * 1))) (k - l) (cap - l)) ((xs.drop l).take (k - l)) := by
  have hc := Sl.cut (s := 1) h (by simp) l k h1 h2
  unfold Is
  rw [show ((xs.drop l).take (k - l)).length = k - l from by simp; omega, List.map_take, List.map_drop]
  simpa only [Nat.mul_one] using hc
end Go.V
namespace Go.V
set_option linter.unusedSimpArgs false
set_option linter.unusedVariables false
open Go.RowKit
/-- Things that lie in memory by a fixed number of cells each. -/
class Row (α : Type) where
  sz : Nat
  cells : α → List Value
  zero : α
  len : ∀ a, (cells a).length = sz
  pos : Nat.blt 0 sz = true
def vb : Value → Nat
  | .slice (some a) _ _ => a.block
  | _ => 0
def vo : Value → Nat
  | .slice (some a) _ _ => a.off
  | _ => 0
section row
variable {α : Type} [Row α]
def Ones (xs : List α) : Prop := ∀ x ∈ xs, (Row.cells x).all oneC = true
def flat (xs : List α) : List Value := xs.flatMap Row.cells
theorem flat_len : ∀ xs : List α, (flat xs).length = xs.length * Row.sz α
  | [] => by simp [flat]
  | x :: r => by
    have := flat_len r
    simp only [flat, List.flatMap_cons, List.length_append, List.length_cons, Row.len] at this ⊢
    rw [this, Nat.add_mul]; omega
theorem flat_nil : flat ([] : List α) = [] := rfl
theorem flat_cons (x : α) (xs : List α) : flat (x :: xs) = Row.cells x ++ flat xs := by simp [flat]
theorem flat_app (xs ys : List α) : flat (xs ++ ys) = flat xs ++ flat ys := by simp [flat]
theorem flat_take : ∀ (xs : List α) (n : Nat), flat (xs.take n) = (flat xs).take (n * Row.sz α)
  | [], n => by simp [flat]
  | x :: r, 0 => by simp [flat]
  | x :: r, n + 1 => by
    have h1 : (n + 1) * Row.sz α - Row.sz α = n * Row.sz α := by rw [Nat.add_mul]; omega
    have h2 : (Row.cells x).length ≤ (n + 1) * Row.sz α := by rw [Row.len, Nat.add_mul]; omega
    rw [List.take_succ_cons, flat_cons, flat_cons, flat_take r n, List.take_append, List.take_of_length_le h2, Row.len, h1]
theorem flat_drop : ∀ (xs : List α) (n : Nat), flat (xs.drop n) = (flat xs).drop (n * Row.sz α)
  | [], n => by simp [flat]
  | x :: r, 0 => by simp [flat]
  | x :: r, n + 1 => by
    have h1 : (n + 1) * Row.sz α - Row.sz α = n * Row.sz α := by rw [Nat.add_mul]; omega
    have h2 : (Row.cells x).length ≤ (n + 1) * Row.sz α := by rw [Row.len, Nat.add_mul]; omega
    rw [List.drop_succ_cons, flat_cons, flat_drop r n, List.drop_append, List.drop_eq_nil_of_le h2, Row.len, h1, List.nil_append]
theorem flat_get {xs : List α} {i : Nat} {x : α} (h : xs[i]? = some x) (j : Nat) (hj : j < Row.sz α) : (flat xs)[i * Row.sz α + j]? = (Row.cells x)[j]? := by
  have h1 : xs.drop i = x :: xs.drop (i + 1) := by
    have hl := (List.getElem?_eq_some_iff.1 h).1
    rw [List.drop_eq_getElem_cons hl]
    rw [List.getElem?_eq_getElem hl] at h
    cases h; rfl
  have h2 := flat_drop xs i
  rw [h1, flat_cons] at h2
  rw [← List.getElem?_drop, ← h2, List.getElem?_append_left (by rw [Row.len]; exact hj)]
theorem flat_set {xs : List α} {i : Nat} {x y : α} (h : xs[i]? = some x) : flat (xs.set i y) = spliceL (flat xs) (i * Row.sz α) (Row.cells y) := by
  have hl := (List.getElem?_eq_some_iff.1 h).1
  rw [List.set_eq_take_append_cons_drop, if_pos hl, flat_app, flat_cons, flat_take, flat_drop, spliceL, Row.len, Nat.add_mul, Nat.one_mul, List.append_assoc]
theorem Ones.app {xs ys : List α} (h : Ones xs) (k : Ones ys) : Ones (xs ++ ys) := fun x hx => (List.mem_append.1 hx).elim (h x) (k x)
theorem Ones.nil : Ones ([] : List α) := fun x hx => by cases hx
theorem Ones.take {xs : List α} (h : Ones xs) (n : Nat) : Ones (xs.take n) := fun x hx => h x (List.mem_of_mem_take hx)
theorem Ones.drop {xs : List α} (h : Ones xs) (n : Nat) : Ones (xs.drop n) := fun x hx => h x (List.mem_of_mem_drop hx)
theorem Ones.set {xs : List α} (h : Ones xs) (i : Nat) {y : α} (hy : (Row.cells y).all oneC = true) : Ones (xs.set i y) := fun x hx => (List.mem_or_eq_of_mem_set hx).elim (h x) (fun e => by subst e; exact hy)
theorem Ones.flat {xs : List α} (h : Ones xs) : ∀ u ∈ flat xs, oneC u = true := fun u hu => by
  obtain ⟨x, hx, hu⟩ := List.mem_flatMap.1 hu
  exact List.all_eq_true.1 (h x hx) u hu
/-- A slice that is looked at: its elements, in blocks of F. -/
def Rs (F : Nat → Prop) (w : World) (v : Value) (xs : List α) : Prop := Sl F w v xs.length (flat xs) ∧ Ones xs
/-- A slice that owns its array. -/
def Ow (E : TypeId) (w : World) (v : Value) (xs : List α) (g : Option Nat) : Prop := Own E (Row.sz α) w v xs.length (flat xs) g ∧ Ones xs
theorem Ow.rs {E : TypeId} {w : World} {v : Value} {xs : List α} {g : Option Nat} (h : Ow E w v xs g) : Rs (fun b => g = some b) w v xs := ⟨h.1.sl, h.2⟩
theorem Rs.mono {F K : Nat → Prop} {w : World} {v : Value} {xs : List α} (h : Rs F w v xs) (hG : ∀ b, b < w.heap.size → F b → K b) : Rs K w v xs := ⟨h.1.mono hG, h.2⟩
theorem Rs.old {F : Nat → Prop} {w : World} {v : Value} {xs : List α} (h : Rs F w v xs) : Rs (fun b => b < w.heap.size) w v xs := h.mono fun _ hb _ => hb
theorem Rs.up0 {F : Nat → Prop} {w w' : World} {v : Value} {xs : List α} (h : Rs F w v xs) (e : Ext0 w w') : Rs F w' v xs := ⟨h.1.up0 e, h.2⟩
theorem Rs.up {F V : Nat → Prop} {w w' : World} {v : Value} {xs : List α} (h : Rs F w v xs) (e : Ext V w w') (hd : ∀ b, F b → ¬ V b) : Rs F w' v xs := ⟨h.1.up e hd, h.2⟩
theorem Rs.nil {F : Nat → Prop} {w : World} : Rs F w (.slice none 0 0) ([] : List α) := ⟨Sl.nil, Ones.nil⟩
theorem Ow.nil {E : TypeId} {w : World} : Ow E w (.slice none 0 0) ([] : List α) none := ⟨by simpa [flat] using Own.nil E (Row.sz α) w, Ones.nil⟩
theorem Rs.src {P : Program} {F : Nat → Prop} {w : World} {v : Value} {xs : List α} (h : Rs F w v xs) : Src P (Row.sz α) w v xs.length (flat xs) := Src.slice h.1 (flat_len xs) h.2.flat
theorem Rs.shape {F : Nat → Prop} {w : World} {v : Value} {xs : List α} (h : Rs F w v xs) : ∃ ao cap, v = .slice ao xs.length cap ∧ xs.length ≤ cap ∧ cap ≤ maxLen := by
  obtain ⟨⟨ao, cap, h1, h2, h3, _⟩, _⟩ := h
  exact ⟨ao, cap, h1, h2, h3⟩
theorem Rs.oneC {F : Nat → Prop} {w : World} {v : Value} {xs : List α} (h : Rs F w v xs) : oneC v = true := by
  obtain ⟨ao, cap, rfl, _, _⟩ := h.shape; rfl
theorem Rs.len63 {F : Nat → Prop} {w : World} {v : Value} {xs : List α} (h : Rs F w v xs) : xs.length ≤ 9223372036854775807 := by
  obtain ⟨ao, cap, _, h1, h2⟩ := h.shape; simp only [maxLen] at h2; omega
theorem Rs.cells {F : Nat → Prop} {w : World} {v : Value} {xs : List α} (h : Rs F w v xs) {i : Nat} {x : α} (hx : xs[i]? = some x) : ∃ cap, v = .slice (some ⟨vb v, vo v, none⟩) xs.length cap ∧ F (vb v) ∧ Cells w (vb v) (vo v + i * Row.sz α) (Row.cells x) := by
  obtain ⟨⟨ao, cap, rfl, h2, h3, h4⟩, ho⟩ := h
  have hl := (List.getElem?_eq_some_iff.1 hx).1
  rcases h4 with h4 | ⟨b, o, rfl, hF, hc⟩
  · have := flat_len xs
    rw [h4] at this
    have hp : 0 < Row.sz α := Nat.le_of_ble_eq_true Row.pos
    have : 0 < xs.length * Row.sz α := Nat.mul_pos (by omega) hp
    simp at *
    omega
  · refine ⟨cap, rfl, hF, Cells.of fun j u hj => ?_⟩
    have hjl := (List.getElem?_eq_some_iff.1 hj).1
    rw [Row.len] at hjl
    have := hc.get (i * Row.sz α + j) u (by rw [flat_get hx j hjl]; exact hj)
    rw [← Nat.add_assoc] at this
    exact this
theorem Rs.cell {F : Nat → Prop} {w : World} {v : Value} {xs : List α} (h : Rs F w v xs) {i o : Nat} {x : α} {u : Value} (hx : xs[i]? = some x) (hu : (Row.cells x)[o]? = some u) : w.cell? ⟨vb v, vo v + i * Row.sz α + o, none⟩ = some u := by
  obtain ⟨_, _, _, hc⟩ := h.cells hx
  exact hc.get o u hu
end row
/-! ### Chunks -/
inductive Ch : Type 1
  | B (b : Nat) (E : TypeId) (cs : List Value)
  | O {α : Type} [Row α] (E : TypeId) (v : Value) (xs : List α) (g : Option Nat)
  | R {α : Type} [Row α] (F : Nat → Prop) (v : Value) (xs : List α)
  | P (F : Nat → Prop) (A : World → Prop)
  | I (F : Nat → Prop) (A : World → Prop)
namespace Ch
def own : Ch → Prop
  | B _ _ _ => True
  | @O _ _ _ _ _ _ => True
  | P _ _ => True
  | _ => False
def F : Ch → Nat → Prop
  | .B b _ _ => fun k => k = b
  | @O _ _ _ _ _ g => fun k => g = some k
  | @R _ _ F _ _ => F
  | .P F _ => F
  | .I F _ => F
def A : Ch → World → Prop
  | .B b E cs => fun w => Blk w b E cs
  | @O _ _ E v xs g => fun w => Ow E w v xs g
  | @R _ _ F v xs => fun w => Rs F w v xs
  | .P _ A => A
  | .I _ A => A
/-- It stays so, as long as its blocks do. -/
def St (F : Nat → Prop) (A : World → Prop) : Prop := ∀ V w w', A w → Ext V w w' → (∀ b, F b → ¬ V b) → A w'
def st (c : Ch) : Prop := ∀ V w w', c.A w → Ext V w w' → (∀ b, c.F b → ¬ V b) → c.A w'
theorem stB {b : Nat} {E : TypeId} {cs : List Value} : (Ch.B b E cs).st := fun _ _ _ h e hd => Blk.up h e (hd b rfl)
theorem stO {α : Type} [Row α] {E : TypeId} {v : Value} {xs : List α} {g : Option Nat} : (Ch.O E v xs g).st := fun _ _ _ h e hd => ⟨h.1.up e hd, h.2⟩
theorem stR {α : Type} [Row α] {F : Nat → Prop} {v : Value} {xs : List α} : (Ch.R F v xs).st := fun _ _ _ h e hd => h.up e hd
end Ch
structure Ok (U G : Nat → Prop) (w : World) (c : Ch) : Prop where
  holds : c.A w
  st : c.st
  lt : ∀ b, c.F b → b < w.heap.size
  own : c.own → ∀ b, c.F b → U b
  imm : ∀ b, c.F b → U b ∨ G b
def Apart (c d : Ch) : Prop := c.own ∨ d.own → ∀ b, c.F b → d.F b → False
theorem Apart.symm {c d : Ch} (h : Apart c d) : Apart d c := fun ho b h1 h2 => h ho.symm b h2 h1
/-- The chunks hold, and lie apart. -/
def Val (U G : Nat → Prop) (w : World) (L : List Ch) : Prop := (∀ c ∈ L, Ok U G w c) ∧ L.Pairwise Apart
structure SH (U G : Nat → Prop) (w0 w : World) (L : List Ch) : Prop where
  ext : Ext U w0 w
  val : Val (fun b => U b ∨ w0.heap.size ≤ b) G w L
def nthC : List Ch → Nat → Option Ch
  | [], _ => none
  | c :: _, 0 => some c
  | _ :: L, i + 1 => nthC L i
def replC : List Ch → Nat → List Ch → List Ch
  | [], _, M => M
  | _ :: L, 0, M => M ++ L
  | c :: L, i + 1, M => c :: replC L i M
def At (L : List Ch) (i : Nat) (c : Ch) : Prop := nthC L i = some c
theorem At.here {c : Ch} {L : List Ch} : At (c :: L) 0 c := rfl
theorem At.there {c d : Ch} {L : List Ch} {i : Nat} (h : At L i c) : At (d :: L) (i + 1) c := h
theorem At.split : ∀ {L : List Ch} {i : Nat} {c : Ch}, At L i c → ∃ L1 L2, L = L1 ++ c :: L2 ∧ ∀ M, replC L i M = L1 ++ M ++ L2
  | [], i, c, h => by cases i <;> cases h
  | d :: L, 0, c, h => by cases h; exact ⟨[], L, rfl, fun M => rfl⟩
  | d :: L, i + 1, c, h => by
    obtain ⟨L1, L2, e, hr⟩ := At.split (L := L) h
    exact ⟨d :: L1, L2, by rw [e]; rfl, fun M => by rw [replC, hr]; rfl⟩
theorem At.mem {L : List Ch} {i : Nat} {c : Ch} (h : At L i c) : c ∈ L := by
  obtain ⟨L1, L2, rfl, _⟩ := h.split; simp
def pickC (L : List Ch) : List Nat → List Ch
  | [] => []
  | i :: r => match nthC L i with
    | some c => c :: pickC L r
    | none => pickC L r
section val
variable {U G : Nat → Prop} {w w' : World} {L : List Ch}
theorem Ok.mono {U' G' : Nat → Prop} {c : Ch} (h : Ok U G w c) (hU : ∀ b, b < w.heap.size → U b → U' b) (hG : ∀ b, b < w.heap.size → G b → U' b ∨ G' b) : Ok U' G' w c :=
  ⟨h.holds, h.st, h.lt, fun o b hb => hU b (h.lt b hb) (h.own o b hb), fun b hb => (h.imm b hb).elim (fun q => .inl (hU b (h.lt b hb) q)) (fun q => hG b (h.lt b hb) q)⟩
theorem Ok.up {V : Nat → Prop} {c : Ch} (h : Ok U G w c) (e : Ext V w w') (hd : ∀ b, c.F b → ¬ V b) : Ok U G w' c :=
  ⟨h.st V w w' h.holds e hd, h.st, fun b hb => Nat.lt_of_lt_of_le (h.lt b hb) e.size, h.own, h.imm⟩
theorem Val.mono {U' G' : Nat → Prop} (h : Val U G w L) (hU : ∀ b, b < w.heap.size → U b → U' b) (hG : ∀ b, b < w.heap.size → G b → U' b ∨ G' b) : Val U' G' w L :=
  ⟨fun c hc => (h.1 c hc).mono hU hG, h.2⟩
theorem Val.up {V : Nat → Prop} (h : Val U G w L) (e : Ext V w w') (hd : ∀ c ∈ L, ∀ b, c.F b → ¬ V b) : Val U G w' L :=
  ⟨fun c hc => (h.1 c hc).up e (hd c hc), h.2⟩
theorem Val.nil : Val U G w [] := ⟨by simp, List.Pairwise.nil⟩
theorem Val.cons {c : Ch} (hc : Ok U G w c) (h : Val U G w L) (ha : ∀ d ∈ L, Apart c d) : Val U G w (c :: L) :=
  ⟨by intro d hd; rcases List.mem_cons.1 hd with rfl | hd; exact hc; exact h.1 d hd, List.Pairwise.cons ha h.2⟩
theorem Val.one {c : Ch} (hc : Ok U G w c) : Val U G w [c] := Val.cons hc Val.nil (by simp)
theorem Val.app {M : List Ch} (h : Val U G w L) (k : Val U G w M) (ha : ∀ c ∈ L, ∀ d ∈ M, Apart c d) : Val U G w (L ++ M) :=
  ⟨fun c hc => (List.mem_append.1 hc).elim (h.1 c) (k.1 c), List.pairwise_append.2 ⟨h.2, k.2, ha⟩⟩
theorem Val.sub {M : List Ch} (h : Val U G w L) (hs : M.Sublist L) : Val U G w M := ⟨fun c hc => h.1 c (hs.subset hc), h.2.sublist hs⟩
theorem apart_lt : ∀ (L : List Ch) (i j : Nat) (c d : Ch), L.Pairwise Apart → At L i c → At L j d → i < j → Apart c d
  | [], i, j, c, d, _, h, _, _ => by cases i <;> cases h
  | x :: L, 0, j + 1, c, d, hp, hi, hj, _ => by cases hi; exact (List.pairwise_cons.1 hp).1 d (At.mem (L := L) (i := j) hj)
  | x :: L, i + 1, j + 1, c, d, hp, hi, hj, h => apart_lt L i j c d (List.pairwise_cons.1 hp).2 hi hj (by omega)
theorem Val.apart {i j : Nat} {c d : Ch} (h : Val U G w L) (hi : At L i c) (hj : At L j d) (hij : i ≠ j) : Apart c d := by
  rcases Nat.lt_or_gt_of_ne hij with hlt | hlt
  · exact apart_lt L i j c d h.2 hi hj hlt
  · exact (apart_lt L j i d c h.2 hj hi hlt).symm
end val
end Go.V
namespace Go.V
set_option linter.unusedSimpArgs false
set_option linter.unusedVariables false
open Go.RowKit
section
variable {U G : Nat → Prop} {w0 w w' : World} {L M : List Ch}
theorem SH.start (w : World) : SH U G w w [] := ⟨Ext.refl _ _, Val.nil⟩
def Any : Nat → Prop := fun _ => True
def Old (w : World) : Nat → Prop := fun b => b < w.heap.size
theorem SH.arg {α : Type} [Row α] {F : Nat → Prop} {v : Value} {xs : List α} (H : SH Non Any w0 w L) (h : Rs F w0 v xs) : SH Non Any w0 w (L ++ [.R (Old w0) v xs]) := by
  have h1 := h.mono (K := Old w0) (fun b hb hF => hb)
  refine ⟨H.ext, H.val.app (Val.one ⟨h1.up0 H.ext, Ch.stR, fun b hb => Nat.lt_of_lt_of_le hb H.ext.size, fun h => h.elim, fun b hb => .inr trivial⟩) ?_⟩
  intro c hc d hd ho b h2 h3
  rw [List.mem_singleton] at hd
  subst hd
  rcases ho with ho | ho
  · rcases (H.val.1 c hc).own ho b h2 with q | q
    · exact q
    · exact absurd h3 (by show ¬ b < _; omega)
  · exact ho
def AllOwn : List Ch → Prop
  | [] => True
  | c :: L => c.own ∧ AllOwn L
theorem AllOwn.mem : ∀ {L : List Ch}, AllOwn L → ∀ c ∈ L, c.own
  | c :: L, h, d, hd => (List.mem_cons.1 hd).elim (fun e => e ▸ h.1) (fun hd => AllOwn.mem h.2 d hd)
/-- What is handed back. -/
theorem SH.give (H : SH U G w0 w L) (hs : M.Sublist L) (ho : AllOwn M) : SH U Non w0 w M :=
  ⟨H.ext, fun c hc => have k := H.val.1 c (hs.subset hc)
    ⟨k.holds, k.st, k.lt, k.own, fun b hb => .inl (k.own (ho.mem c hc) b hb)⟩, H.val.2.sublist hs⟩
theorem SH.same (H : SH U G w0 w L) (e : Ext0 w w') : SH U G w0 w' L := ⟨H.ext.trans0 e, H.val.up e (fun _ _ _ _ h => h)⟩
theorem SH.sub (H : SH U G w0 w L) (hs : M.Sublist L) : SH U G w0 w M := ⟨H.ext, H.val.sub hs⟩
theorem SH.nil (H : SH U G w0 w L) : SH U G w0 w [] := H.sub (List.nil_sublist _)
theorem SH.old (H : SH Non G w0 w L) : Ext0 w0 w := H.ext
theorem Val.lt {c : Ch} (h : Val U G w L) (hc : c ∈ L) : ∀ b, c.F b → b < w.heap.size := (h.1 c hc).lt
/-- More that is new. -/
theorem SH.call (H : SH U G w0 w L) (K : SH Non Non w w' M) : SH U G w0 w' (L ++ M) := by
  refine ⟨H.ext.trans0 K.ext, (H.val.up K.ext (fun _ _ _ _ h => h)).app (K.val.mono (fun b _ hb => .inr ?_) (fun b _ hb => hb.elim)) ?_⟩
  · have := H.ext.size; rcases hb with hb | hb; exact hb.elim; omega
  · intro c hc d hd _ b h1 h2
    have a := H.val.lt hc b h1
    rcases (K.val.1 d hd).imm b h2 with (q | q) | q
    · exact q
    · omega
    · exact q
/-- What one chunk owns is changed. -/
theorem SH.upd {i : Nat} {c : Ch} (H : SH U G w0 w L) (hi : At L i c) (ho : c.own) (K : SH c.F Non w w' M) : SH U G w0 w' (replC L i M) := by
  obtain ⟨L1, L2, rfl, hr⟩ := hi.split
  rw [hr]
  have hc := H.val.1 c (by simp)
  have hp := List.pairwise_append.1 H.val.2
  have hp2 := List.pairwise_cons.1 hp.2.1
  have ap : ∀ d, d ∈ L1 ∨ d ∈ L2 → ∀ b, d.F b → ¬ c.F b := by
    rintro d (hd | hd) b h1 h2
    · exact hp.2.2 d hd c (by simp) (.inr ho) b h1 h2
    · exact hp2.1 d hd (.inl ho) b h2 h1
  have hext : Ext U w0 w' := H.ext.trans K.ext (fun _ _ h => h) (fun x hx h => (hc.own ho x h).elim id (fun q => absurd hx (by omega)))
  have hM : Val (fun b => U b ∨ w0.heap.size ≤ b) G w' M := K.val.mono (fun b _ hb => hb.elim (fun q => hc.own ho b q) (fun q => .inr (Nat.le_trans H.ext.size q))) (fun b _ hb => hb.elim)
  have apM : ∀ d, d ∈ L1 ∨ d ∈ L2 → ∀ m ∈ M, ∀ b, d.F b → m.F b → False := by
    intro d hd m hm b h1 h2
    have hlt := H.val.lt (c := d) (by rcases hd with hd | hd <;> simp [hd]) b h1
    rcases (K.val.1 m hm).imm b h2 with (q | q) | q
    · exact ap d hd b h1 q
    · omega
    · exact q
  have u1 : Val (fun b => U b ∨ w0.heap.size ≤ b) G w' L1 := Val.up (Val.sub H.val (by simp)) K.ext (fun d hd b hb => ap d (.inl hd) b hb)
  have u2 : Val (fun b => U b ∨ w0.heap.size ≤ b) G w' L2 := Val.up (Val.sub H.val (by simp)) K.ext (fun d hd b hb => ap d (.inr hd) b hb)
  refine ⟨hext, (u1.app hM fun d hd m hm _ => apM d (.inl hd) m hm).app u2 fun d hd m hm ho' b h1 h2 => ?_⟩
  rcases List.mem_append.1 hd with hd | hd
  · exact hp.2.2 d hd m (by simp [hm]) ho' b h1 h2
  · exact apM m (.inr hm) d hd b h2 h1
/-- A chunk is seen in another way. -/
theorem SH.cast {i : Nat} {c d : Ch} (H : SH U G w0 w L) (hi : At L i c) (ho : d.own → c.own) (hF : ∀ b, d.F b → c.F b) (hst : d.st) (hA : c.A w → d.A w) : SH U G w0 w (replC L i [d]) := by
  obtain ⟨L1, L2, rfl, hr⟩ := hi.split
  rw [hr]
  have hc := H.val.1 c (by simp)
  refine ⟨H.ext, fun x hx => ?_, ?_⟩
  · rcases (by simpa using hx : x ∈ L1 ∨ x = d ∨ x ∈ L2) with h | rfl | h
    · exact H.val.1 x (by simp [h])
    · exact ⟨hA hc.holds, hst, fun b hb => hc.lt b (hF b hb), fun o b hb => hc.own (ho o) b (hF b hb), fun b hb => hc.imm b (hF b hb)⟩
    · exact H.val.1 x (by simp [h])
  · have hp := H.val.2
    simp only [List.pairwise_append, List.pairwise_cons, List.append_assoc, List.cons_append, List.nil_append, List.mem_cons] at hp ⊢
    obtain ⟨p1, ⟨p2, p3⟩, p4⟩ := hp
    refine ⟨p1, ⟨fun x hx h b h1 h2 => p2 x hx (h.imp ho id) b (hF b h1) h2, p3⟩, fun x hx y hy h b h1 h2 => ?_⟩
    rcases hy with rfl | hy
    · exact p4 x hx c (.inl rfl) (h.imp id ho) b h1 (hF b h2)
    · exact p4 x hx y (.inr hy) h b h1 h2
theorem SH.rsR {α : Type} {_r : Row α} {F : Nat → Prop} {v : Value} {xs : List α} {i : Nat} (H : SH U G w0 w L) (hi : At L i (.R F v xs)) : Rs F w v xs := (H.val.1 _ hi.mem).holds
theorem SH.rsO {α : Type} {_r : Row α} {E : TypeId} {v : Value} {xs : List α} {g : Option Nat} {i : Nat} (H : SH U G w0 w L) (hi : At L i (.O E v xs g)) : Rs (fun b => g = some b) w v xs := Ow.rs (H.val.1 _ hi.mem).holds
theorem SH.blk {b : Nat} {E : TypeId} {cs : List Value} {i : Nat} (H : SH U G w0 w L) (hi : At L i (.B b E cs)) : Blk w b E cs := (H.val.1 _ hi.mem).holds
theorem SH.prop {F : Nat → Prop} {A : World → Prop} {i : Nat} (H : SH U G w0 w L) (hi : At L i (.P F A)) : A w := (H.val.1 _ hi.mem).holds
theorem SH.propI {F : Nat → Prop} {A : World → Prop} {i : Nat} (H : SH U G w0 w L) (hi : At L i (.I F A)) : A w := (H.val.1 _ hi.mem).holds
theorem SH.cellB {b o : Nat} {E : TypeId} {cs : List Value} {u : Value} {i : Nat} (H : SH U G w0 w L) (hi : At L i (.B b E cs)) (hu : cs[o]? = some u) : w.cell? ⟨b, o, none⟩ = some u := (H.blk hi).cell hu
theorem SH.cells {b : Nat} {E : TypeId} {cs : List Value} {i : Nat} (H : SH U G w0 w L) (hi : At L i (.B b E cs)) : Cells w b 0 cs := (H.blk hi).cellsAll
theorem Cells.part {b o : Nat} {cs : List Value} (h : Cells w b 0 cs) (n : Nat) : Cells w b o ((cs.drop o).take n) := Cells.of fun j u hj => by
  rw [List.getElem?_take] at hj
  split at hj
  · rw [List.getElem?_drop] at hj
    have := h.get (o + j) u hj
    rwa [Nat.zero_add] at this
  · cases hj
theorem SH.part {b o : Nat} {E : TypeId} {cs : List Value} {i : Nat} (H : SH U G w0 w L) (hi : At L i (.B b E cs)) (n : Nat) : Cells w b o ((cs.drop o).take n) := (H.cells hi).part n
/-- What a slice owns may be looked at alone, and is not written any more: its sharers may be many. -/
theorem SH.fresh {α : Type} {_r : Row α} {E : TypeId} {v : Value} {xs : List α} {g : Option Nat} {i : Nat} (H : SH Non G w0 w L) (hi : At L i (.O E v xs g)) : Rs (fun b => w0.heap.size ≤ b) w v xs :=
  (H.rsO hi).mono fun b _ hb => ((H.val.1 _ hi.mem).own trivial b hb).elim (fun q => q.elim) id
/-- New blocks. -/
theorem SH.fromB {b : Nat} {E : TypeId} {cs : List Value} (e : Ext0 w w') (hb : b = w.heap.size) (hs : w'.heap.size = b + 1) (h : Blk w' b E cs) : SH Non Non w w' [.B b E cs] :=
  ⟨e, Val.one ⟨h, Ch.stB, fun k hk => by cases hk; omega, fun _ k hk => .inr (by cases hk; omega), fun k hk => .inl (.inr (by cases hk; omega))⟩⟩
theorem SH.fromO {α : Type} {_r : Row α} {E : TypeId} {v : Value} {xs : List α} {g : Option Nat} {V : Nat → Prop} (e : Ext V w w') (h : Ow E w' v xs g) (hg : ∀ b, g = some b → V b ∨ w.heap.size ≤ b) : SH V Non w w' [.O E v xs g] :=
  ⟨e, Val.one ⟨h, Ch.stO, h.1.lt, fun _ k hk => hg k hk, fun k hk => .inl (hg k hk)⟩⟩
theorem SH.addO {α : Type} [Row α] (H : SH U G w0 w L) (E : TypeId) : SH U G w0 w (L ++ [.O E (.slice none 0 0) ([] : List α) none]) :=
  H.call (SH.fromO (Ext.refl _ _) Ow.nil (fun b h => by cases h))
/-- A block of its own becomes a row. -/
theorem SH.row {α : Type} [Row α] {b n cap : Nat} {E : TypeId} {cs : List Value} {xs : List α} {i : Nat} (H : SH U G w0 w L) (hi : At L i (.B b E cs)) (h : flat xs = cs) (h1 : Ones xs) (hn : n = xs.length) (hc : cap = n) (hm : n ≤ maxLen) : SH U G w0 w (replC L i [.O E (.slice (some ⟨b, 0, none⟩) n cap) xs (some b)]) :=
  H.cast (d := .O E (.slice (some ⟨b, 0, none⟩) n cap) xs (some b)) hi (fun _ => trivial) (fun k hk => by cases hk; rfl) Ch.stO (fun hb => by
    subst hn hc h
    exact ⟨Own.blk (show Blk w b E (flat xs) from hb) (flat_len xs) hm rfl, h1⟩)
theorem SH.take {α : Type} {_r : Row α} {E : TypeId} {ao : Option Addr} {n cap : Nat} {xs : List α} {g : Option Nat} {i : Nat} (H : SH U G w0 w L) (hi : At L i (.O E (.slice ao n cap) xs g)) (m : Nat) (hm : m ≤ xs.length) : SH U G w0 w (replC L i [.O E (.slice ao m cap) (xs.take m) g]) :=
  H.cast (d := .O E (.slice ao m cap) (xs.take m) g) hi (fun _ => trivial) (fun k hk => hk) Ch.stO (fun h => by
    have h : Ow E w (.slice ao n cap) xs g := h
    have hn : n = xs.length := by obtain ⟨_, _, e, _⟩ := h.rs.shape; cases e; rfl
    subst hn
    have := h.1.take hm
    rw [← flat_take] at this
    refine ⟨?_, h.2.take m⟩
    rwa [show (xs.take m).length = m from by simp; omega])
end
section rules
variable {U G : Nat → Prop} {w0 : World} {L : List Ch}
variable {P : Program} {N : Fr} {ops : Array Oper} {rest : List Oper} {Q : EPost} {ρ : Env} {w : World}
variable {d : Nat} {dd : Option Nat} {gg : Option (Nat × Bool)} {ty T T2 E : TypeId} {pos : String} {af : Array Edge} {x y z : Operand} {k : IntKind} {m n : Int}
theorem s_alloc {zv : Value} {cs : List Value} (H : SH U G w0 w L) (hd : Nat.blt d N.n = true) (hz : ∀ w, (zeroValue E).run P w = .ok zv w) (hc : zv.cells.toList = cs)
    (h : ∀ b w', SH U G w0 w' (L ++ [.B b E cs]) → LW P N ops rest Q (upd ρ d (.pointer (some ⟨b, 0, none⟩))) w') : LW P N ops (⟨some d, .alloc E, ty, pos, af, none⟩ :: rest) Q ρ w :=
  r_alloc hd hz hc fun b w' hb hs e hB => h b w' (H.call (SH.fromB e hb hs hB))
theorem s_box {v : Value} {cs : List Value} (H : SH U G w0 w L) (hd : Nat.blt d N.n = true) (hx : ev ρ x = v) (hc : v.cells.toList = cs)
    (h : ∀ b w', SH U G w0 w' (L ++ [.B b E cs]) → LW P N ops rest Q (upd ρ d (.pointer (some ⟨b, 0, none⟩))) w') : LW P N ops (⟨some d, .box E x, ty, pos, af, none⟩ :: rest) Q ρ w :=
  r_box hd hx hc fun b w' hb hs e hB => h b w' (H.call (SH.fromB e hb hs hB))
theorem SH.stored {b : Nat} {cs cs' : List Value} {i : Nat} {w' : World} (H : SH U G w0 w L) (hi : At L i (.B b E cs)) (e : Ext (fun k => k = b) w w') (hs : w'.heap.size = w.heap.size) (hB : Blk w' b E cs') : SH U G w0 w' (replC L i [.B b E cs']) :=
  H.upd hi trivial ⟨e, Val.one ⟨hB, Ch.stB, fun k hk => by cases hk; exact hB.lt, fun _ k hk => .inl hk, fun k hk => .inl (.inl hk)⟩⟩
theorem s_store {b o i : Nat} {E : TypeId} {cs : List Value} {v : Value} (H : SH U G w0 w L) (hs : ∀ w, (sizeOf T).run P w = .ok 1 w) (hx : ev ρ x = .pointer (some ⟨b, o, none⟩)) (hy : ev ρ y = v) (h1 : oneC v = true) (hi : At L i (.B b E cs)) (ho : o < cs.length)
    (h : ∀ w', SH U G w0 w' (replC L i [.B b E (cs.set o v)]) → LW P N ops rest Q ρ w') : LW P N ops (⟨none, .store T x y, ty, pos, af, none⟩ :: rest) Q ρ w :=
  r_store hs hx hy h1 (H.blk hi) ho fun w' hs e hB => h w' (H.stored hi e hs hB)
theorem s_storeA {b o s i : Nat} {E : TypeId} {cs vs : List Value} {v : Value} (H : SH U G w0 w L) (hs : ∀ w, (sizeOf T).run P w = .ok s w) (hx : ev ρ x = .pointer (some ⟨b, o, none⟩)) (hy : ev ρ y = v) (hv : cellsL v = vs) (hl : vs.length = s) (h1 : vs.all oneC = true) (hi : At L i (.B b E cs)) (ho : o + s ≤ cs.length)
    (h : ∀ w', SH U G w0 w' (replC L i [.B b E (spliceL cs o vs)]) → LW P N ops rest Q ρ w') : LW P N ops (⟨none, .store T x y, ty, pos, af, none⟩ :: rest) Q ρ w :=
  r_storeA hs hx hy hv hl h1 (H.blk hi) ho fun w' hs e hB => h w' (H.stored hi e hs hB)
/-- A store into an element of a row of ours. -/
theorem Ow.elem {α : Type} {_r : Row α} {w : World} {v : Value} {xs : List α} {g : Option Nat} (h : Ow E w v xs g) {j : Nat} {x : α} (hx : xs[j]? = some x) :
    ∃ cap cur, g = some (vb v) ∧ v = .slice (some ⟨vb v, 0, none⟩) xs.length cap ∧ vo v = 0 ∧ Blk w (vb v) E cur ∧ j * Row.sz α + Row.sz α ≤ cur.length ∧ (∀ o u, (Row.cells x)[o]? = some u → cur[j * Row.sz α + o]? = some u) ∧
      ∀ w' y cur', Blk w' (vb v) E cur' → cur' = spliceL cur (j * Row.sz α) (Row.cells y) → (Row.cells y).all oneC = true → Ow E w' v (xs.set j y) g := by
  have hl := (List.getElem?_eq_some_iff.1 hx).1
  obtain ⟨⟨hcl, ⟨rfl, rfl, h0⟩ | ⟨b, cap, cur, rfl, rfl, h3, h4, h5, h6, h7⟩⟩, hone⟩ := h
  · omega
  · have hcur : cur.toList.length = cap * Row.sz α := by simpa using h6
    have hjn : j * Row.sz α + Row.sz α ≤ xs.length * Row.sz α := by rw [← Nat.succ_mul]; exact Nat.mul_le_mul_right _ hl
    have hnc : xs.length * Row.sz α ≤ cap * Row.sz α := Nat.mul_le_mul_right _ h4
    refine ⟨cap, cur.toList, rfl, rfl, rfl, by simpa [Blk, vb] using h3, by omega, fun o u hu => ?_, fun w' y cur' hb he hy => ⟨⟨by rw [flat_len], .inr ⟨b, cap, cur'.toArray, rfl, by rw [List.length_set], hb, by rw [List.length_set]; exact h4, h5, ?_, ?_⟩⟩, hone.set j hy⟩⟩
    · have ho := (List.getElem?_eq_some_iff.1 hu).1
      rw [Row.len] at ho
      have h8 := flat_get hx o ho
      rw [← h7, hu, List.getElem?_take, if_pos (by omega)] at h8
      exact h8
    · subst he
      simp only [spliceL, List.size_toArray, List.length_append, List.length_take, List.length_drop, Row.len]
      omega
    · subst he
      rw [List.length_set, flat_set hx, ← h7]
      simp only [spliceL]
      rw [List.take_append, List.take_append]
      simp only [List.length_append, List.length_take, Row.len]
      rw [Nat.min_eq_left (by omega), List.take_take, List.take_take, Nat.min_eq_right (by omega), Nat.min_eq_left (by omega), List.take_of_length_le (l := Row.cells y) (by rw [Row.len]; omega), List.drop_take]
theorem splice_seg (cur us : List Value) (p s o : Nat) (h : p + s ≤ cur.length) (ho : o + us.length ≤ s) : spliceL cur (p + o) us = spliceL cur p (spliceL ((cur.drop p).take s) o us) := by
  obtain ⟨a, m, rfl, ha⟩ : ∃ a m, cur = a ++ m ∧ a.length = p := ⟨cur.take p, cur.drop p, (List.take_append_drop p cur).symm, by simp; omega⟩
  obtain ⟨b, c, rfl, hb⟩ : ∃ b c, m = b ++ c ∧ b.length = s := ⟨m.take s, m.drop s, (List.take_append_drop s m).symm, by simp at *; omega⟩
  subst ha hb
  have hl : (spliceL b o us).length = b.length := by simp [spliceL]; omega
  simp only [spliceL, List.drop_left, List.take_left, List.append_assoc, List.length_append, List.length_take, List.length_drop]
  have e1 : (a ++ (b ++ c)).take (a.length + o) = a ++ b.take o := by
    rw [List.take_append, List.take_of_length_le (l := a) (by omega), show a.length + o - a.length = o from by omega, List.take_append, show o - b.length = 0 from by omega]; simp
  have e2 : (a ++ (b ++ c)).drop (a.length + o + us.length) = b.drop (o + us.length) ++ c := by
    rw [List.drop_append, List.drop_eq_nil_of_le (as := a) (by omega), show a.length + o + us.length - a.length = o + us.length from by omega, List.drop_append, show o + us.length - b.length = 0 from by omega]; simp
  rw [e1, e2, show a.length + (min o b.length + (us.length + (b.length - (o + us.length)))) = a.length + b.length from by omega, List.append_assoc]
  rw [List.drop_append, List.drop_eq_nil_of_le (as := a) (by omega), show a.length + b.length - a.length = b.length from by omega, List.drop_left]
  simp
theorem s_storeRA {α : Type} {_r : Row α} {E : TypeId} {j o s i : Nat} {xs : List α} {x0 x1 : α} {v u : Value} {us : List Value} {g : Option Nat} {a : Nat} (H : SH U G w0 w L) (hs : ∀ w, (sizeOf T).run P w = .ok s w) (hx : ev ρ x = .pointer (some ⟨vb v, a, none⟩)) (hy : ev ρ y = u) (huv : cellsL u = us) (hl : us.length = s) (h1 : us.all oneC = true) (hi : At L i (.O E v xs g)) (hj : xs[j]? = some x0) (ha : a = vo v + j * Row.sz α + o) (ho : Nat.ble (o + s) (Row.sz α) = true) (hu : spliceL (Row.cells x0) o us = Row.cells x1) (hone : (Row.cells x1).all oneC = true)
    (h : ∀ w', SH U G w0 w' (replC L i [.O E v (xs.set j x1) g]) → LW P N ops rest Q ρ w') : LW P N ops (⟨none, .store T x y, ty, pos, af, none⟩ :: rest) Q ρ w := by
  have how : Ow E w v xs g := (H.val.1 _ hi.mem).holds
  obtain ⟨cap, cur, hg, hv, hvo, hB, hlc, hc, hset⟩ := how.elem hj
  have ho' : o + s ≤ Row.sz α := Nat.le_of_ble_eq_true ho
  subst ha
  rw [hvo, Nat.zero_add] at hx
  have hcells : Row.cells x0 = (cur.drop (j * Row.sz α)).take (Row.sz α) := by
    apply List.ext_getElem?
    intro q
    rw [List.getElem?_take]
    split
    · rw [List.getElem?_drop]
      have hq : q < (Row.cells x0).length := by rw [Row.len]; assumption
      rw [List.getElem?_eq_getElem hq]
      exact (hc q _ (List.getElem?_eq_getElem hq)).symm
    · rw [List.getElem?_eq_none (by rw [Row.len]; omega)]
  refine r_storeA hs hx hy huv hl h1 hB (by omega) fun w' hs' e hB' => h w' (H.upd hi trivial (SH.fromO (e.mono fun k hk => by show g = some k; rw [hg, hk]) (hset w' x1 _ hB' ?_ hone) (fun b hb => .inl hb)))
  rw [← hu, hcells]
  exact splice_seg cur us (j * Row.sz α) (Row.sz α) o hlc (by omega)
theorem s_storeR {α : Type} {_r : Row α} {E : TypeId} {j o i : Nat} {xs : List α} {x0 x1 : α} {v u : Value} {g : Option Nat} {a : Nat} (H : SH U G w0 w L) (hs : ∀ w, (sizeOf T).run P w = .ok 1 w) (hx : ev ρ x = .pointer (some ⟨vb v, a, none⟩)) (hy : ev ρ y = u) (h1 : oneC u = true) (hi : At L i (.O E v xs g)) (hj : xs[j]? = some x0) (ha : a = vo v + j * Row.sz α + o) (ho : Nat.blt o (Row.sz α) = true) (hu : (Row.cells x0).set o u = Row.cells x1) (hone : (Row.cells x1).all oneC = true)
    (h : ∀ w', SH U G w0 w' (replC L i [.O E v (xs.set j x1) g]) → LW P N ops rest Q ρ w') : LW P N ops (⟨none, .store T x y, ty, pos, af, none⟩ :: rest) Q ρ w := by
  have ho' : o < Row.sz α := Nat.le_of_ble_eq_true ho
  refine s_storeRA (us := [u]) (s := 1) H hs hx hy (by cases u <;> first | rfl | cases h1) rfl (by simp [h1]) hi hj ha ho ?_ hone h
  rw [← hu, set_splice _ _ _ (by rw [Row.len]; exact ho')]
  simp [spliceL]
/-- Slices whose value is not written out. -/
theorem x_lenV {α : Type} {_r : Row α} {F : Nat → Prop} {v : Value} {xs : List α} (hT : P.underlying T = some (.slice E)) (hx : ev ρ x = v) (hr : Rs F w v xs) : (execOp (ev ρ) ⟨dd, .call { callee := .builtin .len, args := #[x], argTypes := #[T] }, ty, pos, af, gg⟩).run P w = .ok (.value (.int .i64 xs.length)) w := by
  obtain ⟨ao, cap, rfl, _, _⟩ := hr.shape
  exact x_len hT hx
theorem x_indexAddrV {α : Type} {_r : Row α} {F : Nat → Prop} {v : Value} {xs : List α} (hT : P.underlying T = some (.slice E)) (hx : ev ρ x = v) (hy : ev ρ y = .int k m) (hr : Rs F w v xs) (hs : ∀ w, (sizeOf E).run P w = .ok (Row.sz α) w) (h0 : 0 ≤ m) (h1 : m < xs.length) :
    (execOp (ev ρ) ⟨dd, .indexAddr T x y, ty, pos, af, gg⟩).run P w = .ok (.value (.pointer (some ⟨vb v, vo v + m.toNat * Row.sz α, none⟩))) w := by
  have hm : m.toNat < xs.length := by omega
  obtain ⟨cap, e, _, _⟩ := hr.cells (List.getElem?_eq_getElem hm)
  rw [e] at hx
  exact x_indexAddr hT hs hx hy h0 h1
theorem s_append {α : Type} {_r : Row α} {E : TypeId} {F : Nat → Prop} {i : TypeInfo} {zv v u : Value} {xs ys : List α} {g : Option Nat} {j : Nat} (H : SH U G w0 w L) (hd : Nat.blt d N.n = true) (ht : P.underlying T = some (.slice E)) (hu : P.underlying T2 = some (.slice E)) (hi : P.info? E = some i) (hz : i.zero = some zv)
    (hx : ev ρ x = v) (hy : ev ρ y = u) (hv : At L j (.O E v xs g)) (hr : Rs F w u ys) (hs : i.size = Row.sz α) (hzs : zv.cells.size = Row.sz α) (hb : (xs.length + ys.length) * i.bytes ≤ 140737488355328) (h63 : xs.length + ys.length ≤ maxLen)
    (h : ∀ v' w' g', SH U G w0 w' (replC L j [.O E v' (xs ++ ys) g']) → (v' = .slice none 0 0 ↔ v = .slice none 0 0 ∧ ys.length = 0) → LW P N ops rest Q (upd ρ d v') w') :
    LW P N ops (⟨some d, .call { callee := .builtin .append, args := #[x, y], argTypes := #[T, T2] }, ty, pos, af, none⟩ :: rest) Q ρ w := by
  have how : Ow E w v xs g := (H.val.1 _ hv.mem).holds
  refine r_append hd ht (.inl ⟨_, hu⟩) hi hz hs hzs Row.pos hx hy how.1 hr.src h63 hb fun v' w' g' hO hE hG hN => h v' w' g' (H.upd hv trivial (SH.fromO hE ⟨?_, how.2.app hr.2⟩ hG)) hN
  rw [List.length_append, flat_app]
  exact hO
theorem s_appendNil {α : Type} {_r : Row α} {E : TypeId} {F : Nat → Prop} {i : TypeInfo} {zv u : Value} {ys : List α} (H : SH U G w0 w L) (hd : Nat.blt d N.n = true) (ht : P.underlying T = some (.slice E)) (hu : P.underlying T2 = some (.slice E)) (hi : P.info? E = some i) (hz : i.zero = some zv)
    (hx : ev ρ x = .slice none 0 0) (hy : ev ρ y = u) (hr : Rs F w u ys) (hs : i.size = Row.sz α) (hzs : zv.cells.size = Row.sz α) (hb : ys.length * i.bytes ≤ 140737488355328)
    (h : ∀ v' w' g', SH U G w0 w' (L ++ [.O E v' ys g']) → (v' = .slice none 0 0 ↔ ys.length = 0) → LW P N ops rest Q (upd ρ d v') w') :
    LW P N ops (⟨some d, .call { callee := .builtin .append, args := #[x, y], argTypes := #[T, T2] }, ty, pos, af, none⟩ :: rest) Q ρ w := by
  have h63 := hr.len63
  refine r_append hd ht (.inl ⟨_, hu⟩) hi hz hs hzs Row.pos hx hy (Ow.nil (α := α) (E := E) (w := w)).1 hr.src (by simp only [maxLen, List.length_nil]; omega) (by simpa using hb) fun v' w' g' hO hE hG hN => h v' w' g' (H.call (SH.fromO (hE.mono (fun b h => by cases h)) ⟨by simpa [flat_nil] using hO, hr.2⟩ (fun b hb => .inr ((hG b hb).resolve_left (fun h => by cases h))))) (by simpa using hN)
theorem s_make {α : Type} {_r : Row α} {i : TypeInfo} {kl kc : IntKind} {l c : Int} (z : α) (H : SH U G w0 w L) (hd : Nat.blt d N.n = true) (ht : P.underlying T = some (.slice E)) (hi : P.info? E = some i) (hz : i.zero = some (Row.cells z).head!) (hs : i.size = 1) (h1 : (Row.cells z).head!.cells = #[(Row.cells z).head!]) (hsz : Row.sz α = 1) (hone : (Row.cells z).all oneC = true)
    (hx : ev ρ x = .int kl l) (hy : ev ρ y = .int kc c) (hlc : l = c) (h0 : 0 ≤ l) (hbytes : (i.bytes : Int) * c ≤ 281474976710656) (h63 : c ≤ 9223372036854775807)
    (h : ∀ b w', SH U G w0 w' (L ++ [.O E (.slice (some ⟨b, 0, none⟩) l.toNat c.toNat) (List.replicate c.toNat z) (some b)]) → LW P N ops rest Q (upd ρ d (.slice (some ⟨b, 0, none⟩) l.toNat c.toNat)) w') :
    LW P N ops (⟨some d, .makeSlice T x y, ty, pos, af, none⟩ :: rest) Q ρ w := by
  subst hlc
  refine r_make hd ht hi hz hs h1 hx hy h0 (Int.le_refl _) hbytes h63 fun b w' hb hsz' e hB => h b w' (H.call (SH.fromO (e.mono fun _ h => h.elim) ⟨?_, fun x hx => by rw [List.eq_of_mem_replicate hx]; exact hone⟩ (fun k hk => .inr (by cases hk; omega))))
  have hcz : Row.cells z = [(Row.cells z).head!] := by
    have := Row.len z
    rw [show Row.sz α = 1 from hsz] at this
    match hq : Row.cells z, this with
    | [u], _ => rfl
  have hfl : ∀ n : Nat, flat (List.replicate n z) = List.replicate n (Row.cells z).head! := by
    intro n
    induction n with
    | zero => rfl
    | succ n ih => rw [List.replicate_succ, flat_cons, ih, List.replicate_succ, hcz]; rfl
  rw [hfl, List.length_replicate]
  exact Own.blk hB (by rw [List.length_replicate, hsz, Nat.mul_one]) (by simp only [maxLen]; omega) rfl
def cutL (s l : Nat) : Value → Value
  | .slice ao n cap => .slice (if cap = l then ao else ao.map (·.add (l * s))) (n - l) (cap - l)
  | v => v
def cutH (h : Nat) : Value → Value
  | .slice ao n cap => .slice ao h cap
  | v => v
def cutLH (s l h : Nat) : Value → Value
  | .slice ao n cap => .slice (if cap = l then ao else ao.map (·.add (l * s))) (h - l) (cap - l)
  | v => v
theorem Rs.toLH {α : Type} {_r : Row α} {F : Nat → Prop} {v : Value} {xs : List α} (hr : Rs F w v xs) {l h : Nat} (h1 : l ≤ h) (h2 : h ≤ xs.length) : Rs F w (cutLH (Row.sz α) l h v) ((xs.drop l).take (h - l)) := by
  obtain ⟨ao, cap, rfl, _, _⟩ := hr.shape
  have := Sl.cut hr.1 (flat_len xs) l h h1 h2
  refine ⟨?_, (hr.2.drop _).take _⟩
  rw [flat_take, flat_drop, show ((xs.drop l).take (h - l)).length = h - l from by simp; omega]; exact this
theorem Rs.toL {α : Type} {_r : Row α} {F : Nat → Prop} {v : Value} {xs : List α} (hr : Rs F w v xs) {l : Nat} (h2 : l ≤ xs.length) : Rs F w (cutL (Row.sz α) l v) (xs.drop l) := by
  have := hr.toLH (l := l) (h := xs.length) h2 (Nat.le_refl _)
  obtain ⟨ao, cap, rfl, _, _⟩ := hr.shape
  rw [List.take_of_length_le (by simp)] at this
  exact this
theorem Rs.toH {α : Type} {_r : Row α} {F : Nat → Prop} {v : Value} {xs : List α} (hr : Rs F w v xs) {h : Nat} (h2 : h ≤ xs.length) : Rs F w (cutH h v) (xs.take h) := by
  obtain ⟨⟨ao, cap, rfl, h3, h4, h5⟩, ho⟩ := hr
  refine ⟨⟨ao, cap, by rw [List.length_take, Nat.min_eq_left h2]; rfl, by rw [List.length_take]; omega, h4, ?_⟩, ho.take _⟩
  rcases h5 with h5 | ⟨b, o, rfl, hF, hc⟩
  · left; rw [flat_take, h5]; simp
  · refine .inr ⟨b, o, rfl, hF, Cells.of fun j u hj => ?_⟩
    rw [flat_take, List.getElem?_take] at hj
    split at hj
    · exact hc.get j u hj
    · cases hj
theorem x_sliceLV {α : Type} {_r : Row α} {F : Nat → Prop} {v : Value} {xs : List α} {kl : IntKind} {l : Int} (hT : P.underlying T = some (.slice E)) (hx : ev ρ x = v) (hy : ev ρ y = .int kl l)
    (hr : Rs F w v xs) (hs : ∀ w, (sizeOf E).run P w = .ok (Row.sz α) w) (h0 : 0 ≤ l) (h2 : l ≤ xs.length) : (execOp (ev ρ) ⟨dd, .slice T x (some y) none none, ty, pos, af, gg⟩).run P w = .ok (.value (cutL (Row.sz α) l.toNat v)) w := by
  obtain ⟨ao, cap, rfl, hlc, _⟩ := hr.shape
  have hE : P.elem T = E := by simp [Program.elem, hT]
  have hr := run_slice_l (P := P) w T ao xs.length cap (by rw [hE]; exact hT) kl l h0 h2
  rw [hE, hs] at hr
  simp only [execOp, hx, hy, Option.map_some, Option.map_none, Sem.run_bind]
  simp [go_sem, run_sliceAt_slice w T _ _ _ _ (by rw [hE]; exact hT), hr, sliced, cutL]
theorem r_sliceLV {α : Type} {_r : Row α} {F : Nat → Prop} {v : Value} {xs : List α} {kl : IntKind} {l : Int} (hd : Nat.blt d N.n = true) (hT : P.underlying T = some (.slice E)) (hx : ev ρ x = v) (hy : ev ρ y = .int kl l)
    (hr : Rs F w v xs) (hs : ∀ w, (sizeOf E).run P w = .ok (Row.sz α) w) (h0 : 0 ≤ l) (h2 : l ≤ xs.length) (hk : LW P N ops rest Q (upd ρ d (cutL (Row.sz α) l.toNat v)) w) : LW P N ops (⟨some d, .slice T x (some y) none none, ty, pos, af, none⟩ :: rest) Q ρ w := LW.v hd (x_sliceLV hT hx hy hr hs h0 h2) hk
/-- A struct's value put together, each part's cells told. -/
def QS (ρ : Env) : List (Nat × Operand) → List (Nat × List Value) → Prop
  | [], [] => True
  | (i, x) :: ps, (j, l) :: qs => i = j ∧ cellsL (ev ρ x) = l ∧ QS ρ ps qs
  | _, _ => False
def fillQ (pl : List (Nat × Nat)) : List Value → List (Nat × List Value) → Option (List Value)
  | cs, [] => some cs
  | cs, (i, l) :: r =>
    match pl[i]? with
    | none => none
    | some (off, size) => bif Nat.beq l.length size && Nat.ble (off + size) cs.length then fillQ pl (spliceL cs off l) r else none
theorem fillQ_eq {pl : List (Nat × Nat)} : ∀ {ps : List (Nat × Operand)} {qs : List (Nat × List Value)} {cs : List Value}, QS ρ ps qs → fillL pl cs (ps.map (fun p => (p.1, ev ρ p.2))) = fillQ pl cs qs
  | [], [], _, _ => rfl
  | (i, x) :: ps, (j, l) :: qs, cs, h => by
    obtain ⟨rfl, rfl, h⟩ := h
    simp only [List.map_cons, fillL, fillQ]
    cases pl[i]? with
    | none => rfl
    | some q =>
      obtain ⟨off, size⟩ := q
      simp only [fillQ_eq h]
theorem cells_one {u v : Value} (h : u = v) (h1 : oneC v = true) : cellsL u = [v] := by
  subst h; cases u <;> first | rfl | cases h1
theorem x_buildQ {fs : Array Field} {zv : Value} {zl cs : List Value} {parts : Array (Nat × Operand)} {pl : List (Nat × Nat)} {qs : List (Nat × List Value)} (hT : P.underlying T = some (.struct fs)) (hz : ∀ w, (zeroValue T).run P w = .ok zv w) (hzl : cellsL zv = zl)
    (hpl : ∀ w, (fs.mapM (fun f => do pure (f.offset, ← sizeOf f.type) : Field → Sem (Nat × Nat))).run P w = .ok pl.toArray w) (hq : QS ρ parts.toList qs) (hc : fillQ pl zl qs = some cs) :
    (execOp (ev ρ) ⟨dd, .build T parts, ty, pos, af, gg⟩).run P w = .ok (.value (.agg cs.toArray)) w := x_build hT hz hzl hpl (by rw [fillQ_eq hq]; exact hc)
theorem r_buildQ {fs : Array Field} {zv : Value} {zl cs : List Value} {parts : Array (Nat × Operand)} {pl : List (Nat × Nat)} {qs : List (Nat × List Value)} (hd : Nat.blt d N.n = true) (hT : P.underlying T = some (.struct fs)) (hz : ∀ w, (zeroValue T).run P w = .ok zv w) (hzl : cellsL zv = zl)
    (hpl : ∀ w, (fs.mapM (fun f => do pure (f.offset, ← sizeOf f.type) : Field → Sem (Nat × Nat))).run P w = .ok pl.toArray w) (hq : QS ρ parts.toList qs) (hc : fillQ pl zl qs = some cs)
    (h : LW P N ops rest Q (upd ρ d (.agg cs.toArray)) w) : LW P N ops (⟨some d, .build T parts, ty, pos, af, none⟩ :: rest) Q ρ w := LW.v hd (x_buildQ hT hz hzl hpl hq hc) h
theorem x_fieldAddrO {b o k : Nat} {fs : Array Field} {i : Nat} {f : Field} {s : Nat} (hT : P.underlying T = some (.struct fs)) (hf : fs[i]? = some f) (hs : ∀ w, (sizeOf f.type).run P w = .ok s w) (h0 : s ≠ 0) (hk : o + f.offset = k) (hx : ev ρ x = .pointer (some ⟨b, o, none⟩)) :
    (execOp (ev ρ) ⟨dd, .fieldAddr T x i, ty, pos, af, gg⟩).run P w = .ok (.value (.pointer (some ⟨b, k, none⟩))) w := hk ▸ x_fieldAddr hT hf hs h0 hx
theorem x_eqlP {p : Option Addr} (hT : P.underlying T = some (.pointer E)) (hx : ev ρ x = .pointer p) (hy : ev ρ y = .pointer none) :
    (execOp (ev ρ) ⟨dd, .binOp .eql T x y T2, ty, pos, af, gg⟩).run P w = .ok (.value (.bool p.isNone)) w := by
  have h' : (Op.equalIn 10000 T (.pointer p) (.pointer none)).run P w = .ok p.isNone w := by
    show (Op.equalIn (9999 + 1) T (.pointer p) (.pointer none)).run P w = .ok p.isNone w
    generalize 9999 = d
    cases p <;> simp [Op.equalIn, run_underlying hT]
  simp only [execOp, hx, hy, eqGuard, Go.binOp]
  simp [go_sem, Op.equal, Op.maxDepth, h']
theorem r_eqlP {p : Option Addr} (hd : Nat.blt d N.n = true) (hT : P.underlying T = some (.pointer E)) (hx : ev ρ x = .pointer p) (hy : ev ρ y = .pointer none)
    (h : LW P N ops rest Q (upd ρ d (.bool p.isNone)) w) : LW P N ops (⟨some d, .binOp .eql T x y T2, ty, pos, af, none⟩ :: rest) Q ρ w := LW.v hd (x_eqlP hT hx hy) h
theorem x_neqP {p : Option Addr} (hT : P.underlying T = some (.pointer E)) (hx : ev ρ x = .pointer p) (hy : ev ρ y = .pointer none) :
    (execOp (ev ρ) ⟨dd, .binOp .neq T x y T2, ty, pos, af, gg⟩).run P w = .ok (.value (.bool (!p.isNone))) w := by
  have h' : (Op.equalIn 10000 T (.pointer p) (.pointer none)).run P w = .ok p.isNone w := by
    show (Op.equalIn (9999 + 1) T (.pointer p) (.pointer none)).run P w = .ok p.isNone w
    generalize 9999 = d
    cases p <;> simp [Op.equalIn, run_underlying hT]
  simp only [execOp, hx, hy, eqGuard, Go.binOp]
  simp [go_sem, Op.equal, Op.maxDepth, h']
theorem r_neqP {p : Option Addr} (hd : Nat.blt d N.n = true) (hT : P.underlying T = some (.pointer E)) (hx : ev ρ x = .pointer p) (hy : ev ρ y = .pointer none)
    (h : LW P N ops rest Q (upd ρ d (.bool (!p.isNone))) w) : LW P N ops (⟨some d, .binOp .neq T x y T2, ty, pos, af, none⟩ :: rest) Q ρ w := LW.v hd (x_neqP hT hx hy) h
/-- A literal of things of several cells, each written out. -/
def numbered : Nat → List Value → List (Nat × Value)
  | _, [] => []
  | k, v :: r => (k, v) :: numbered (k + 1) r
theorem fillS {s : Nat} : ∀ (vs : List Value) (k : Nat) (pre zs : List Value), pre.length = k * s → zs.length = vs.length * s → (∀ v ∈ vs, (cellsL v).length = s) →
    Instr.fill (fun i => some (i * s, s)) (pre ++ zs).toArray (numbered k vs) = some (pre ++ vs.flatMap cellsL).toArray
  | [], k, pre, zs, _, hz, _ => by
    have : zs = [] := List.eq_nil_of_length_eq_zero (by simpa using hz)
    subst this; simp [numbered, Instr.fill]
  | v :: r, k, pre, zs, hp, hz, hv => by
    have h1 := hv v (by simp)
    have hzl : zs.length = s + r.length * s := by rw [hz, List.length_cons, Nat.add_mul, Nat.one_mul, Nat.add_comm]
    have hf := foldl_splice (k * s) (cellsL v) 0 (pre ++ zs) (by simp; omega)
    simp only [Nat.add_zero] at hf
    have e1 : (pre ++ zs).take (k * s) = pre := by rw [← hp, List.take_left]
    have e2 : (pre ++ zs).drop (k * s + (cellsL v).length) = zs.drop s := by rw [h1, ← hp, List.drop_append, List.drop_eq_nil_of_le (by omega)]; simp
    rw [e1, e2] at hf
    have ih := fillS r (k + 1) (pre ++ cellsL v) (zs.drop s) (by rw [List.length_append, hp, h1, Nat.add_mul]; omega) (by rw [List.length_drop]; omega) (fun u hu => hv u (by simp [hu]))
    simp only [numbered, Instr.fill, cellsL_eq, List.size_toArray, List.length_append] at ih ⊢
    rw [if_neg (by rw [h1]; simp; omega)]
    rw [show ((cellsL v).toArray.zipIdx.foldl (fun (cs : Array Value) (x : Value × Nat) => match x with | (c, j) => cs.setIfInBounds (k * s + j) c) (pre ++ zs).toArray) = (pre ++ cellsL v ++ zs.drop s).toArray from hf, ih]
    simp
theorem r_buildSliceA {zv : Value} {len s : Nat} {parts : Array (Nat × Operand)} {vs : List Value} (hd : Nat.blt d N.n = true) (ht : P.underlying T = some (.slice E)) (hs : ∀ w, (sizeOf E).run P w = .ok s w) (hz : ∀ w, (zeroValue E).run P w = .ok zv w) (hzc : zv.cells.size = s)
    (hl : Nat.ble (len * s) 1000 = true) (h0 : Nat.blt 0 len = true) (hss : Nat.blt 0 s = true) (hv : parts.toList.map (fun p => (p.1, ev ρ p.2)) = numbered 0 vs) (hlen : vs.length = len) (hvs : ∀ v ∈ vs, (cellsL v).length = s)
    (h : ∀ b w', b = w.heap.size → w'.heap.size = b + 1 → Ext0 w w' → Blk w' b E (vs.flatMap cellsL) → LW P N ops rest Q (upd ρ d (.slice (some ⟨b, 0, none⟩) len len)) w') :
    LW P N ops (⟨some d, .buildSlice T len parts, ty, pos, af, none⟩ :: rest) Q ρ w := by
  have hl' : len * s ≤ 1000 := Nat.le_of_ble_eq_true hl
  have h0' : 0 < len := Nat.le_of_ble_eq_true h0
  refine LW.v hd (w' := w.alloc (.cells (vs.flatMap cellsL).toArray E)) (v := .slice (some ⟨w.heap.size, 0, none⟩) len len) ?_ (h _ _ rfl (by simp) (alloc_ext w _) (alloc_new w _ _))
  have h24 : ¬ (16777216 < len * s) := by omega
  have hmap : (parts.map (fun p => match p with | (i, x) => (i, ev ρ x))) = parts.map (fun p => (p.1, ev ρ p.2)) := rfl
  have hm2 : (parts.map (fun p => (p.1, ev ρ p.2))).toList = numbered 0 vs := by rw [← hv]; simp
  have hm3 : parts.toList.map (fun p => (p.1, ev ρ p.2)) = numbered 0 vs := hv
  have hss' : 0 < s := Nat.le_of_ble_eq_true hss
  have hpos : len * s ≠ 0 := Nat.ne_of_gt (Nat.mul_pos h0' hss')
  have hf := fillS (s := s) vs 0 [] ((Array.range (len * s)).map (fun j => zv.cells[j % zv.cells.size]!)).toList (by simp) (by simp [hlen]) hvs
  simp only [List.nil_append, Array.toArray_toList] at hf
  have hrun : (Instr.buildSlice T len (parts.map (fun p => (p.1, ev ρ p.2)))).run P w = .ok (.slice (some ⟨w.heap.size, 0, none⟩) len len) (w.alloc (.cells (vs.flatMap cellsL).toArray E)) := by
    unfold Instr.buildSlice
    simp only [Sem.run_bind, run_underlying ht, Result.andThen_ok, hs, if_neg h24, if_neg hpos, hz, Sem.run_pure, hm2, hf]
    simp [newRow, newObj, Sem.run]
  simp only [execOp, hmap, Sem.run_bind, hrun, Result.andThen_ok, Sem.run_pure]
theorem r_eqlV {α : Type} {_r : Row α} {F : Nat → Prop} {v : Value} {xs : List α} (hd : Nat.blt d N.n = true) (hT : P.underlying T = some (.slice E)) (hx : ev ρ x = v) (hy : ev ρ y = .slice none 0 0) (hr : Rs F w v xs)
    (h : ∀ b, (b = true → xs = []) → LW P N ops rest Q (upd ρ d (.bool b)) w) : LW P N ops (⟨some d, .binOp .eql T x y T2, ty, pos, af, none⟩ :: rest) Q ρ w := by
  obtain ⟨⟨ao, cap, rfl, h2, h3, h4⟩, ho⟩ := hr
  refine r_eqlN hd hT hx hy (h _ fun hn => ?_)
  cases ao with
  | some a => cases hn
  | none =>
    rcases h4 with h4 | ⟨b, o, h4, _⟩
    · have := flat_len xs
      rw [h4] at this
      have hp : 0 < Row.sz α := Nat.le_of_ble_eq_true Row.pos
      have h5 : xs.length * Row.sz α = 0 := by simpa using this.symm
      rcases Nat.mul_eq_zero.1 h5 with h6 | h6
      · exact List.eq_nil_of_length_eq_zero h6
      · omega
    · cases h4
theorem CW.drawP {L' : List Ch} {id n : Nat} (is late : List Nat) (H : SH U G w0 w L) (hp : pickC L is = L') (hs : L'.Sublist L) (hm : P.follows .mixedOrders = true) (hn : ops.size = n) (h : ∀ w1, SH U G w0 w1 L → DL P N ops (fun u => SH U G w0 u L') late Q n (Array.replicate n false) ρ w1) : CW P N (.region id ops true) Q ρ w :=
  CW.drawL _ late hm hn fun w1 _ e => h w1 (H.same e)
theorem CW.drawH {L' : List Ch} {id n : Nat} (late : List Nat) (H : SH U G w0 w L) (hs : L'.Sublist L) (hm : P.follows .mixedOrders = true) (hn : ops.size = n) (h : ∀ w1, SH U G w0 w1 L → DL P N ops (fun u => SH U G w0 u L') late Q n (Array.replicate n false) ρ w1) : CW P N (.region id ops true) Q ρ w :=
  CW.drawL _ late hm hn fun w1 _ e => h w1 (H.same e)
end rules
section
variable {U G : Nat → Prop} {w0 w w' : World} {L M : List Ch} {α : Type} {_r : Row α}
theorem Rs.cell0 {F : Nat → Prop} {w : World} {v : Value} {xs : List α} (h : Rs F w v xs) {i : Nat} {x : α} {u : Value} (hx : xs[i]? = some x) (hu : (Row.cells x)[0]? = some u) : w.cell? ⟨vb v, vo v + i * Row.sz α, none⟩ = some u := h.cell (o := 0) hx hu
theorem Rs.cells0 {F : Nat → Prop} {w : World} {v : Value} {xs : List α} (h : Rs F w v xs) {i : Nat} {x : α} (hx : xs[i]? = some x) : Cells w (vb v) (vo v + i * Row.sz α) (Row.cells x) := by
  obtain ⟨_, _, _, hc⟩ := h.cells hx; exact hc
theorem lt_of_get {β : Type} {xs : List β} {i : Nat} {x : β} (h : xs[i]? = some x) : i < xs.length := (List.getElem?_eq_some_iff.1 h).1
theorem get_of_lt {β : Type} {xs : List β} {i : Nat} (h : i < xs.length) : ∃ x, xs[i]? = some x := ⟨_, List.getElem?_eq_getElem h⟩
theorem take_snoc {β : Type} {xs : List β} {i : Nat} {x : β} (h : xs[i]? = some x) : xs.take (i + 1) = xs.take i ++ [x] := by
  have hl := lt_of_get h
  rw [List.take_succ_eq_append_getElem hl]
  rw [List.getElem?_eq_getElem hl] at h
  cases h; rfl
end
instance : Row Int := ⟨1, fun n => [i64v n], 0, fun _ => rfl, rfl⟩
instance : Row UInt8 := ⟨1, fun n => [u8v n], 0, fun _ => rfl, rfl⟩
instance : Row Bool := ⟨1, fun b => [.bool b], false, fun _ => rfl, rfl⟩
instance : Row ByteArray := ⟨1, fun s => [.string s], ByteArray.empty, fun _ => rfl, rfl⟩
theorem onesI (xs : List Int) : Ones xs := fun _ _ => rfl
theorem onesU (xs : List UInt8) : Ones xs := fun _ _ => rfl
theorem flat_i64 (xs : List Int) : flat xs = xs.map i64v := by
  induction xs with
  | nil => rfl
  | cons x r ih => rw [flat_cons, ih]; rfl
theorem flat_u8' (xs : List UInt8) : flat xs = xs.map u8v := by
  induction xs with
  | nil => rfl
  | cons x r ih => rw [flat_cons, ih]; rfl
theorem Is.rs {F : Nat → Prop} {w : World} {v : Value} {xs : List Int} (h : Is F w v xs) : Rs F w v xs := ⟨by rw [flat_i64]; exact h, onesI _⟩
theorem Rs.is {F : Nat → Prop} {w : World} {v : Value} {xs : List Int} (h : Rs F w v xs) : Is F w v xs := by have := h.1; rw [flat_i64] at this; exact this
theorem Bs.rs {F : Nat → Prop} {w : World} {v : Value} {xs : List UInt8} (h : Bs F w v xs) : Rs F w v xs := ⟨by rw [flat_u8']; exact h, onesU _⟩
theorem Rs.bs {F : Nat → Prop} {w : World} {v : Value} {xs : List UInt8} (h : Rs F w v xs) : Bs F w v xs := by have := h.1; rw [flat_u8'] at this; exact this
end Go.V
