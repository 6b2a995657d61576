/-
  Rows of things of several cells; what is known of memory as a list of chunks that lie apart. No statement of the claim stands here: these are rules, whatever the program.
-/
import Derived.Test.YtaggdlbjgjagbaaVNil
import Derived.Test.YtaggdlbjgjagbaaVLate
import Derived.Test.YtaggdlbjgjagbaaVEq
import Derived.Test.YtaggdlbjgjagbaaVInts
namespace Go.V
set_option linter.unusedSimpArgs false
set_option linter.unusedVariables false
open Go.RowKit

/-- Things that lie in memory by a fixed number of cells each. -/
class Row (α : Type) where
  sz : Nat
  cells : α → List Value
  zero : α
  len : ∀ a, (cells a).length = sz
  pos : Nat.blt 0 sz = true

def vb : Value → Nat
  | .slice (some a) _ _ => a.block
  | _ => 0
def vo : Value → Nat
  | .slice (some a) _ _ => a.off
  | _ => 0

section row
variable {α : Type} [Row α]
def Ones (xs : List α) : Prop := ∀ x ∈ xs, (Row.cells x).all oneC = true
def flat (xs : List α) : List Value := xs.flatMap Row.cells
theorem flat_len : ∀ xs : List α, (flat xs).length = xs.length * Row.sz α
  | [] => by simp [flat]
  | x :: r => by
    have := flat_len r
    simp only [flat, List.flatMap_cons, List.length_append, List.length_cons, Row.len] at this ⊢
    rw [this, Nat.add_mul]; omega
theorem flat_nil : flat ([] : List α) = [] := rfl
theorem flat_cons (x : α) (xs : List α) : flat (x :: xs) = Row.cells x ++ flat xs := by simp [flat]
theorem flat_app (xs ys : List α) : flat (xs ++ ys) = flat xs ++ flat ys := by simp [flat]
theorem flat_take : ∀ (xs : List α) (n : Nat), flat (xs.take n) = (flat xs).take (n * Row.sz α)
  | [], n => by simp [flat]
  | x :: r, 0 => by simp [flat]
  | x :: r, n + 1 => by
    have h1 : (n + 1) * Row.sz α - Row.sz α = n * Row.sz α := by rw [Nat.add_mul]; omega
    have h2 : (Row.cells x).length ≤ (n + 1) * Row.sz α := by rw [Row.len, Nat.add_mul]; omega
    rw [List.take_succ_cons, flat_cons, flat_cons, flat_take r n, List.take_append, List.take_of_length_le h2, Row.len, h1]
theorem flat_drop : ∀ (xs : List α) (n : Nat), flat (xs.drop n) = (flat xs).drop (n * Row.sz α)
  | [], n => by simp [flat]
  | x :: r, 0 => by simp [flat]
  | x :: r, n + 1 => by
    have h1 : (n + 1) * Row.sz α - Row.sz α = n * Row.sz α := by rw [Nat.add_mul]; omega
    have h2 : (Row.cells x).length ≤ (n + 1) * Row.sz α := by rw [Row.len, Nat.add_mul]; omega
    rw [List.drop_succ_cons, flat_cons, flat_drop r n, List.drop_append, List.drop_eq_nil_of_le h2, Row.len, h1, List.nil_append]
theorem flat_get {xs : List α} {i : Nat} {x : α} (h : xs[i]? = some x) (j : Nat) (hj : j < Row.sz α) : (flat xs)[i * Row.sz α + j]? = (Row.cells x)[j]? := by
  have h1 : xs.drop i = x :: xs.drop (i + 1) := by
    have hl := (List.getElem?_eq_some_iff.1 h).1
    rw [List.drop_eq_getElem_cons hl]
    rw [List.getElem?_eq_getElem hl] at h
    cases h; rfl
  have h2 := flat_drop xs i
  rw [h1, flat_cons] at h2
  rw [← List.getElem?_drop, ← h2, List.getElem?_append_left (by rw [Row.len]; exact hj)]
theorem flat_set {xs : List α} {i : Nat} {x y : α} (h : xs[i]? = some x) : flat (xs.set i y) = spliceL (flat xs) (i * Row.sz α) (Row.cells y) := by
  have hl := (List.getElem?_eq_some_iff.1 h).1
  rw [List.set_eq_take_append_cons_drop, if_pos hl, flat_app, flat_cons, flat_take, flat_drop, spliceL, Row.len, Nat.add_mul, Nat.one_mul, List.append_assoc]
theorem Ones.app {xs ys : List α} (h : Ones xs) (k : Ones ys) : Ones (xs ++ ys) := fun x hx => (List.mem_append.1 hx).elim (h x) (k x)
theorem Ones.nil : Ones ([] : List α) := fun x hx => by cases hx
theorem Ones.take {xs : List α} (h : Ones xs) (n : Nat) : Ones (xs.take n) := fun x hx => h x (List.mem_of_mem_take hx)
theorem Ones.drop {xs : List α} (h : Ones xs) (n : Nat) : Ones (xs.drop n) := fun x hx => h x (List.mem_of_mem_drop hx)
theorem Ones.set {xs : List α} (h : Ones xs) (i : Nat) {y : α} (hy : (Row.cells y).all oneC = true) : Ones (xs.set i y) := fun x hx => (List.mem_or_eq_of_mem_set hx).elim (h x) (fun e => by subst e; exact hy)
theorem Ones.flat {xs : List α} (h : Ones xs) : ∀ u ∈ flat xs, oneC u = true := fun u hu => by
  obtain ⟨x, hx, hu⟩ := List.mem_flatMap.1 hu
  exact List.all_eq_true.1 (h x hx) u hu

/-- A slice that is looked at: its elements, in blocks of F. -/
def Rs (F : Nat → Prop) (w : World) (v : Value) (xs : List α) : Prop := Sl F w v xs.length (flat xs) ∧ Ones xs
/-- A slice that owns its array. -/
def Ow (E : TypeId) (w : World) (v : Value) (xs : List α) (g : Option Nat) : Prop := Own E (Row.sz α) w v xs.length (flat xs) g ∧ Ones xs
theorem Ow.rs {E : TypeId} {w : World} {v : Value} {xs : List α} {g : Option Nat} (h : Ow E w v xs g) : Rs (fun b => g = some b) w v xs := ⟨h.1.sl, h.2⟩
theorem Rs.mono {F K : Nat → Prop} {w : World} {v : Value} {xs : List α} (h : Rs F w v xs) (hG : ∀ b, b < w.heap.size → F b → K b) : Rs K w v xs := ⟨h.1.mono hG, h.2⟩
theorem Rs.old {F : Nat → Prop} {w : World} {v : Value} {xs : List α} (h : Rs F w v xs) : Rs (fun b => b < w.heap.size) w v xs := h.mono fun _ hb _ => hb
theorem Rs.up0 {F : Nat → Prop} {w w' : World} {v : Value} {xs : List α} (h : Rs F w v xs) (e : Ext0 w w') : Rs F w' v xs := ⟨h.1.up0 e, h.2⟩
theorem Rs.up {F V : Nat → Prop} {w w' : World} {v : Value} {xs : List α} (h : Rs F w v xs) (e : Ext V w w') (hd : ∀ b, F b → ¬ V b) : Rs F w' v xs := ⟨h.1.up e hd, h.2⟩
theorem Rs.nil {F : Nat → Prop} {w : World} : Rs F w (.slice none 0 0) ([] : List α) := ⟨Sl.nil, Ones.nil⟩
theorem Ow.nil {E : TypeId} {w : World} : Ow E w (.slice none 0 0) ([] : List α) none := ⟨by simpa [flat] using Own.nil E (Row.sz α) w, Ones.nil⟩
theorem Rs.src {P : Program} {F : Nat → Prop} {w : World} {v : Value} {xs : List α} (h : Rs F w v xs) : Src P (Row.sz α) w v xs.length (flat xs) := Src.slice h.1 (flat_len xs) h.2.flat
theorem Rs.shape {F : Nat → Prop} {w : World} {v : Value} {xs : List α} (h : Rs F w v xs) : ∃ ao cap, v = .slice ao xs.length cap ∧ xs.length ≤ cap ∧ cap ≤ maxLen := by
  obtain ⟨⟨ao, cap, h1, h2, h3, _⟩, _⟩ := h
  exact ⟨ao, cap, h1, h2, h3⟩
theorem Rs.oneC {F : Nat → Prop} {w : World} {v : Value} {xs : List α} (h : Rs F w v xs) : oneC v = true := by
  obtain ⟨ao, cap, rfl, _, _⟩ := h.shape; rfl
theorem Rs.len63 {F : Nat → Prop} {w : World} {v : Value} {xs : List α} (h : Rs F w v xs) : xs.length ≤ 9223372036854775807 := by
  obtain ⟨ao, cap, _, h1, h2⟩ := h.shape; simp only [maxLen] at h2; omega
theorem Rs.cells {F : Nat → Prop} {w : World} {v : Value} {xs : List α} (h : Rs F w v xs) {i : Nat} {x : α} (hx : xs[i]? = some x) : ∃ cap, v = .slice (some ⟨vb v, vo v, none⟩) xs.length cap ∧ F (vb v) ∧ Cells w (vb v) (vo v + i * Row.sz α) (Row.cells x) := by
  obtain ⟨⟨ao, cap, rfl, h2, h3, h4⟩, ho⟩ := h
  have hl := (List.getElem?_eq_some_iff.1 hx).1
  rcases h4 with h4 | ⟨b, o, rfl, hF, hc⟩
  · have := flat_len xs
    rw [h4] at this
    have hp : 0 < Row.sz α := Nat.le_of_ble_eq_true Row.pos
    have : 0 < xs.length * Row.sz α := Nat.mul_pos (by omega) hp
    simp at *
    omega
  · refine ⟨cap, rfl, hF, Cells.of fun j u hj => ?_⟩
    have hjl := (List.getElem?_eq_some_iff.1 hj).1
    rw [Row.len] at hjl
    have := hc.get (i * Row.sz α + j) u (by rw [flat_get hx j hjl]; exact hj)
    rw [← Nat.add_assoc] at this
    exact this
theorem Rs.cell {F : Nat → Prop} {w : World} {v : Value} {xs : List α} (h : Rs F w v xs) {i o : Nat} {x : α} {u : Value} (hx : xs[i]? = some x) (hu : (Row.cells x)[o]? = some u) : w.cell? ⟨vb v, vo v + i * Row.sz α + o, none⟩ = some u := by
  obtain ⟨_, _, _, hc⟩ := h.cells hx
  exact hc.get o u hu
end row

/-! ### Chunks -/
inductive Ch : Type 1
  | B (b : Nat) (E : TypeId) (cs : List Value)
  | O {α : Type} [Row α] (E : TypeId) (v : Value) (xs : List α) (g : Option Nat)
  | R {α : Type} [Row α] (F : Nat → Prop) (v : Value) (xs : List α)
  | P (F : Nat → Prop) (A : World → Prop)
  | I (F : Nat → Prop) (A : World → Prop)
namespace Ch
def own : Ch → Prop
  | B _ _ _ => True
  | @O _ _ _ _ _ _ => True
  | P _ _ => True
  | _ => False
def F : Ch → Nat → Prop
  | .B b _ _ => fun k => k = b
  | @O _ _ _ _ _ g => fun k => g = some k
  | @R _ _ F _ _ => F
  | .P F _ => F
  | .I F _ => F
def A : Ch → World → Prop
  | .B b E cs => fun w => Blk w b E cs
  | @O _ _ E v xs g => fun w => Ow E w v xs g
  | @R _ _ F v xs => fun w => Rs F w v xs
  | .P _ A => A
  | .I _ A => A
/-- It stays so, as long as its blocks do. -/
def St (F : Nat → Prop) (A : World → Prop) : Prop := ∀ V w w', A w → Ext V w w' → (∀ b, F b → ¬ V b) → A w'
def st (c : Ch) : Prop := ∀ V w w', c.A w → Ext V w w' → (∀ b, c.F b → ¬ V b) → c.A w'
theorem stB {b : Nat} {E : TypeId} {cs : List Value} : (Ch.B b E cs).st := fun _ _ _ h e hd => Blk.up h e (hd b rfl)
theorem stO {α : Type} [Row α] {E : TypeId} {v : Value} {xs : List α} {g : Option Nat} : (Ch.O E v xs g).st := fun _ _ _ h e hd => ⟨h.1.up e hd, h.2⟩
theorem stR {α : Type} [Row α] {F : Nat → Prop} {v : Value} {xs : List α} : (Ch.R F v xs).st := fun _ _ _ h e hd => h.up e hd
end Ch

structure Ok (U G : Nat → Prop) (w : World) (c : Ch) : Prop where
  holds : c.A w
  st : c.st
  lt : ∀ b, c.F b → b < w.heap.size
  own : c.own → ∀ b, c.F b → U b
  imm : ∀ b, c.F b → U b ∨ G b
def Apart (c d : Ch) : Prop := c.own ∨ d.own → ∀ b, c.F b → d.F b → False
theorem Apart.symm {c d : Ch} (h : Apart c d) : Apart d c := fun ho b h1 h2 => h ho.symm b h2 h1
/-- The chunks hold, and lie apart. -/
def Val (U G : Nat → Prop) (w : World) (L : List Ch) : Prop := (∀ c ∈ L, Ok U G w c) ∧ L.Pairwise Apart
structure SH (U G : Nat → Prop) (w0 w : World) (L : List Ch) : Prop where
  ext : Ext U w0 w
  val : Val (fun b => U b ∨ w0.heap.size ≤ b) G w L

def nthC : List Ch → Nat → Option Ch
  | [], _ => none
  | c :: _, 0 => some c
  | _ :: L, i + 1 => nthC L i
def replC : List Ch → Nat → List Ch → List Ch
  | [], _, M => M
  | _ :: L, 0, M => M ++ L
  | c :: L, i + 1, M => c :: replC L i M
def At (L : List Ch) (i : Nat) (c : Ch) : Prop := nthC L i = some c
theorem At.here {c : Ch} {L : List Ch} : At (c :: L) 0 c := rfl
theorem At.there {c d : Ch} {L : List Ch} {i : Nat} (h : At L i c) : At (d :: L) (i + 1) c := h
theorem At.split : ∀ {L : List Ch} {i : Nat} {c : Ch}, At L i c → ∃ L1 L2, L = L1 ++ c :: L2 ∧ ∀ M, replC L i M = L1 ++ M ++ L2
  | [], i, c, h => by cases i <;> cases h
  | d :: L, 0, c, h => by cases h; exact ⟨[], L, rfl, fun M => rfl⟩
  | d :: L, i + 1, c, h => by
    obtain ⟨L1, L2, e, hr⟩ := At.split (L := L) h
    exact ⟨d :: L1, L2, by rw [e]; rfl, fun M => by rw [replC, hr]; rfl⟩
theorem At.mem {L : List Ch} {i : Nat} {c : Ch} (h : At L i c) : c ∈ L := by
  obtain ⟨L1, L2, rfl, _⟩ := h.split; simp
def pickC (L : List Ch) : List Nat → List Ch
  | [] => []
  | i :: r => match nthC L i with
    | some c => c :: pickC L r
    | none => pickC L r

section val
variable {U G : Nat → Prop} {w w' : World} {L : List Ch}
theorem Ok.mono {U' G' : Nat → Prop} {c : Ch} (h : Ok U G w c) (hU : ∀ b, b < w.heap.size → U b → U' b) (hG : ∀ b, b < w.heap.size → G b → U' b ∨ G' b) : Ok U' G' w c :=
  ⟨h.holds, h.st, h.lt, fun o b hb => hU b (h.lt b hb) (h.own o b hb), fun b hb => (h.imm b hb).elim (fun q => .inl (hU b (h.lt b hb) q)) (fun q => hG b (h.lt b hb) q)⟩
theorem Ok.up {V : Nat → Prop} {c : Ch} (h : Ok U G w c) (e : Ext V w w') (hd : ∀ b, c.F b → ¬ V b) : Ok U G w' c :=
  ⟨h.st V w w' h.holds e hd, h.st, fun b hb => Nat.lt_of_lt_of_le (h.lt b hb) e.size, h.own, h.imm⟩
theorem Val.mono {U' G' : Nat → Prop} (h : Val U G w L) (hU : ∀ b, b < w.heap.size → U b → U' b) (hG : ∀ b, b < w.heap.size → G b → U' b ∨ G' b) : Val U' G' w L :=
  ⟨fun c hc => (h.1 c hc).mono hU hG, h.2⟩
theorem Val.up {V : Nat → Prop} (h : Val U G w L) (e : Ext V w w') (hd : ∀ c ∈ L, ∀ b, c.F b → ¬ V b) : Val U G w' L :=
  ⟨fun c hc => (h.1 c hc).up e (hd c hc), h.2⟩
theorem Val.nil : Val U G w [] := ⟨by simp, List.Pairwise.nil⟩
theorem Val.cons {c : Ch} (hc : Ok U G w c) (h : Val U G w L) (ha : ∀ d ∈ L, Apart c d) : Val U G w (c :: L) :=
  ⟨by intro d hd; rcases List.mem_cons.1 hd with rfl | hd; exact hc; exact h.1 d hd, List.Pairwise.cons ha h.2⟩
theorem Val.one {c : Ch} (hc : Ok U G w c) : Val U G w [c] := Val.cons hc Val.nil (by simp)
theorem Val.app {M : List Ch} (h : Val U G w L) (k : Val U G w M) (ha : ∀ c ∈ L, ∀ d ∈ M, Apart c d) : Val U G w (L ++ M) :=
  ⟨fun c hc => (List.mem_append.1 hc).elim (h.1 c) (k.1 c), List.pairwise_append.2 ⟨h.2, k.2, ha⟩⟩
theorem Val.sub {M : List Ch} (h : Val U G w L) (hs : M.Sublist L) : Val U G w M := ⟨fun c hc => h.1 c (hs.subset hc), h.2.sublist hs⟩
theorem apart_lt : ∀ (L : List Ch) (i j : Nat) (c d : Ch), L.Pairwise Apart → At L i c → At L j d → i < j → Apart c d
  | [], i, j, c, d, _, h, _, _ => by cases i <;> cases h
  | x :: L, 0, j + 1, c, d, hp, hi, hj, _ => by cases hi; exact (List.pairwise_cons.1 hp).1 d (At.mem (L := L) (i := j) hj)
  | x :: L, i + 1, j + 1, c, d, hp, hi, hj, h => apart_lt L i j c d (List.pairwise_cons.1 hp).2 hi hj (by omega)
theorem Val.apart {i j : Nat} {c d : Ch} (h : Val U G w L) (hi : At L i c) (hj : At L j d) (hij : i ≠ j) : Apart c d := by
  rcases Nat.lt_or_gt_of_ne hij with hlt | hlt
  · exact apart_lt L i j c d h.2 hi hj hlt
  · exact (apart_lt L j i d c h.2 hj hi hlt).symm
end val
end Go.V
