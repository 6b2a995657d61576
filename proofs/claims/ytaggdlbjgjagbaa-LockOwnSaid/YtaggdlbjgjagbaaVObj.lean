/-
  Things that own memory; two lists alike, member by member. No program here.
-/
import Derived.Test.YtaggdlbjgjagbaaVOpen
namespace Go.V
set_option linter.unusedSimpArgs false
set_option linter.unusedVariables false
open Go.RowKit

/-- Two lists, alike member by member. -/
def All2 {α β : Type} (R : α → β → Prop) : List α → List β → Prop
  | [], [] => True
  | a :: as, b :: bs => R a b ∧ All2 R as bs
  | _, _ => False
section
variable {α β : Type} {R S : α → β → Prop}
theorem All2.len : ∀ {as : List α} {bs : List β}, All2 R as bs → as.length = bs.length
  | [], [], _ => rfl
  | a :: as, b :: bs, h => by simp [All2.len h.2]
theorem All2.mono (hm : ∀ a b, R a b → S a b) : ∀ {as : List α} {bs : List β}, All2 R as bs → All2 S as bs
  | [], [], _ => trivial
  | a :: as, b :: bs, h => ⟨hm a b h.1, h.2.mono hm⟩
theorem All2.get : ∀ {as : List α} {bs : List β} {i : Nat} {a : α}, All2 R as bs → as[i]? = some a → ∃ b, bs[i]? = some b ∧ R a b
  | a :: as, b :: bs, 0, x, h, hx => by simp at hx; subst hx; exact ⟨b, rfl, h.1⟩
  | a :: as, b :: bs, i + 1, x, h, hx => by
    obtain ⟨y, hy, hr⟩ := h.2.get (i := i) (by simpa using hx)
    exact ⟨y, by simpa using hy, hr⟩
theorem All2.get' : ∀ {as : List α} {bs : List β} {i : Nat} {b : β}, All2 R as bs → bs[i]? = some b → ∃ a, as[i]? = some a ∧ R a b
  | [], [], _, _, _, hx => by simp at hx
  | a :: as, b :: bs, 0, x, h, hx => by simp at hx; subst hx; exact ⟨a, rfl, h.1⟩
  | a :: as, b :: bs, i + 1, x, h, hx => by
    obtain ⟨y, hy, hr⟩ := h.2.get' (i := i) (by simpa using hx)
    exact ⟨y, by simpa using hy, hr⟩
theorem All2.app : ∀ {as as' : List α} {bs bs' : List β}, All2 R as bs → All2 R as' bs' → All2 R (as ++ as') (bs ++ bs')
  | [], _, [], _, _, k => k
  | a :: as, _, b :: bs, _, h, k => ⟨h.1, h.2.app k⟩
theorem All2.snoc {as : List α} {bs : List β} {a : α} {b : β} (h : All2 R as bs) (k : R a b) : All2 R (as ++ [a]) (bs ++ [b]) := h.app ⟨k, trivial⟩
theorem All2.take : ∀ {as : List α} {bs : List β} (n : Nat), All2 R as bs → All2 R (as.take n) (bs.take n)
  | [], [], n, _ => by simp [All2]
  | a :: as, b :: bs, 0, h => by simp [All2]
  | a :: as, b :: bs, n + 1, h => ⟨h.1, h.2.take n⟩
theorem All2.drop : ∀ {as : List α} {bs : List β} (n : Nat), All2 R as bs → All2 R (as.drop n) (bs.drop n)
  | [], [], n, _ => by simp [All2]
  | a :: as, b :: bs, 0, h => h
  | a :: as, b :: bs, n + 1, h => h.2.drop n
theorem All2.set : ∀ {as : List α} {bs : List β} (n : Nat) {a : α} {b : β}, All2 R as bs → R a b → All2 R (as.set n a) (bs.set n b)
  | [], [], n, a, b, _, _ => by simp [All2]
  | x :: as, y :: bs, 0, a, b, h, k => ⟨k, h.2⟩
  | x :: as, y :: bs, n + 1, a, b, h, k => ⟨h.1, h.2.set n k⟩
theorem All2.of : ∀ {as : List α} {bs : List β}, as.length = bs.length → (∀ (i : Nat) (a : α) (b : β), as[i]? = some a → bs[i]? = some b → R a b) → All2 R as bs
  | [], [], _, _ => trivial
  | a :: as, b :: bs, hl, h => ⟨h 0 a b rfl rfl, All2.of (by simpa using hl) (fun i x y hx hy => h (i + 1) x y (by simpa using hx) (by simpa using hy))⟩
theorem All2.map {γ : Type} {f : γ → α} {g : γ → β} : ∀ {cs : List γ}, (∀ c ∈ cs, R (f c) (g c)) → All2 R (cs.map f) (cs.map g)
  | [], _ => trivial
  | c :: cs, h => ⟨h c (by simp), All2.map fun d hd => h d (by simp [hd])⟩
/-- Each thing is one of some. -/
theorem All2.choose {T : α → β → Prop} : ∀ {as : List α}, (∀ a ∈ as, ∃ b, T a b) → ∃ bs : List β, All2 T as bs
  | [], _ => ⟨[], trivial⟩
  | a :: as, h => by
    obtain ⟨b, hb⟩ := h a (by simp)
    obtain ⟨bs, hbs⟩ := All2.choose (T := T) (as := as) (fun x hx => h x (by simp [hx]))
    exact ⟨b :: bs, hb, hbs⟩
end

/-- What a thing owns: all lies in FN. -/
def ObjA (FN : Nat → Prop) (w : World) (M : List Ch) : Prop := Val FN Non w M ∧ ∀ b, FN b → b < w.heap.size
theorem ObjA.up {FN V : Nat → Prop} {w w' : World} {M : List Ch} (h : ObjA FN w M) (e : Ext V w w') (hd : ∀ b, FN b → ¬ V b) : ObjA FN w' M :=
  ⟨h.1.up e (fun c hc b hb => hd b (((h.1.1 c hc).imm b hb).elim id (fun q => q.elim))), fun b hb => Nat.lt_of_lt_of_le (h.2 b hb) e.size⟩
section
variable {U G FN : Nat → Prop} {w0 w w' : World} {L M : List Ch}
theorem SH.obj (h : ObjA FN w M) : SH FN G w w M := ⟨Ext.refl _ _, h.1.mono (fun b _ hb => .inl hb) (fun b _ hb => hb.elim)⟩
theorem SH.argU {α : Type} [Row α] {F : Nat → Prop} {v : Value} {xs : List α} (H : SH U Any w w L) (h : Rs F w v xs) (hF : ∀ b, F b → ¬ U b) : SH U Any w w (L ++ [.R (fun b => F b ∧ b < w.heap.size) v xs]) := by
  have h1 := h.mono (K := fun b => F b ∧ b < w.heap.size) (fun b hb hF => ⟨hF, hb⟩)
  refine ⟨H.ext, H.val.app (Val.one ⟨h1, Ch.stR, fun b hb => hb.2, fun h => h.elim, fun b hb => .inr trivial⟩) ?_⟩
  intro c hc d hd ho b h2 h3
  rw [List.mem_singleton] at hd
  subst hd
  rcases ho with ho | ho
  · rcases (H.val.1 c hc).own ho b h2 with q | q
    · exact hF b h3.1 q
    · exact absurd h3.2 (by omega)
  · exact ho
theorem SH.objP {A : World → Prop} {F : Nat → Prop} (h : A w) (hst : Ch.St F A) (hlt : ∀ w, A w → ∀ b, F b → b < w.heap.size) : SH F G w w [.P F A] :=
  ⟨Ext.refl _ _, Val.one ⟨h, hst, hlt w h, fun _ b hb => .inl hb, fun b hb => .inl (.inl hb)⟩⟩
def toImm : Ch → Ch
  | .B b E cs => .I (fun k => k = b) (fun w => Blk w b E cs)
  | @Ch.O _ _ _ v xs g => .R (fun b => g = some b) v xs
  | @Ch.R _ _ F v xs => .R F v xs
  | .P F A => .I F A
  | .I F A => .I F A
theorem toImm_own (c : Ch) : ¬ (toImm c).own := by cases c <;> exact fun h => h
theorem toImm_F (c : Ch) : (toImm c).F = c.F := by cases c <;> rfl
theorem toImm_A {c : Ch} {w : World} (h : c.A w) : (toImm c).A w := by cases c <;> first | exact h | exact Ow.rs h
theorem toImm_st {c : Ch} (h : c.st) : (toImm c).st := by
  cases c with
  | O E v xs g => exact Ch.stR
  | B b E cs => exact h
  | R F v xs => exact h
  | P F A => exact h
  | I F A => exact h
/-- A thing that is looked at alone. -/
theorem SH.look (h : ObjA FN w M) : SH Non Any w w (M.map toImm) := by
  refine ⟨Ext.refl _ _, fun c hc => ?_, ?_⟩
  · obtain ⟨d, hd, rfl⟩ := List.mem_map.1 hc
    have k := h.1.1 d hd
    exact ⟨toImm_A k.holds, toImm_st k.st, fun b hb => k.lt b (by rwa [toImm_F] at hb), fun o => absurd o (toImm_own d), fun b _ => .inr trivial⟩
  · rw [List.pairwise_map]
    exact h.1.2.imp fun _ ho => ho.elim (fun q => absurd q (toImm_own _)) (fun q => absurd q (toImm_own _))
theorem SH.cellI {b o : Nat} {E : TypeId} {cs : List Value} {u : Value} {i : Nat} {F : Nat → Prop} (H : SH U G w0 w L) (hi : At L i (.I F (fun w => Blk w b E cs))) (hu : cs[o]? = some u) : w.cell? ⟨b, o, none⟩ = some u := Blk.cell (SH.propI H hi) hu
/-- Some chunks, all owned, are one thing. -/
def foot (M : List Ch) : Nat → Prop := fun b => ∃ c ∈ M, c.F b
theorem SH.objA (H : SH U G w0 w M) : ObjA (foot M) w M :=
  ⟨⟨fun c hc => have k := H.val.1 c hc
    ⟨k.holds, k.st, k.lt, fun _ b hb => ⟨c, hc, hb⟩, fun b hb => .inl ⟨c, hc, hb⟩⟩, H.val.2⟩, fun b ⟨c, hc, hb⟩ => (H.val.1 c hc).lt b hb⟩
theorem AllOwn.all : ∀ {L : List Ch}, AllOwn L → ∀ c ∈ L, c.own := fun h c hc => h.mem c hc
/-- The thing that some chunks make, in their place. -/
theorem SH.pack {A : World → Prop} (H : SH U G w0 w (M ++ L)) (ho : AllOwn M) (hst : Ch.St (foot M) A) (hA : ObjA (foot M) w M → A w) : SH U G w0 w (.P (foot M) A :: L) := by
  have hM : SH U G w0 w M := H.sub (List.sublist_append_left _ _)
  have hL : SH U G w0 w L := H.sub (List.sublist_append_right _ _)
  refine ⟨H.ext, Val.cons ⟨hA hM.objA, hst, hM.objA.2, fun _ b ⟨c, hc, hb⟩ => (hM.val.1 c hc).own (ho.mem c hc) b hb, fun b ⟨c, hc, hb⟩ => (hM.val.1 c hc).imm b hb⟩ hL.val fun d hd hod b ⟨c, hc, hb⟩ hb2 => ?_⟩
  exact (List.pairwise_append.1 H.val.2).2.2 c hc d hd (.inl (ho.mem c hc)) b hb hb2
/-- What one more chunk holds becomes the thing's own. -/
theorem SH.absorb {F : Nat → Prop} {A A' : World → Prop} {c : Ch} (H : SH U G w0 w (.P F A :: c :: L)) (hc : c.own) (hst : Ch.St (fun b => F b ∨ c.F b) A') (hA : A w → c.A w → A' w) : SH U G w0 w (.P (fun b => F b ∨ c.F b) A' :: L) := by
  have h1 := H.val.1 (.P F A) (by simp)
  have h2 := H.val.1 c (by simp)
  have hp := List.pairwise_cons.1 H.val.2
  have hp2 := List.pairwise_cons.1 hp.2
  refine ⟨H.ext, Val.cons ⟨hA h1.holds h2.holds, hst, fun b hb => hb.elim (h1.lt b) (h2.lt b), fun _ b hb => hb.elim (h1.own trivial b) (h2.own hc b), fun b hb => hb.elim (h1.imm b) (h2.imm b)⟩
    ⟨fun d hd => H.val.1 d (by simp [hd]), hp2.2⟩ fun d hd hod b hb hb2 => ?_⟩
  rcases hb with hb | hb
  · exact hp.1 d (by simp [hd]) (.inl trivial) b hb hb2
  · exact hp2.1 d hd (.inl hc) b hb hb2
/-- A thing seen as the chunks that it is made of. -/
theorem SH.unpack {A : World → Prop} {F : Nat → Prop} {i : Nat} (H : SH U G w0 w L) (hi : At L i (.P F A)) (hA : ObjA F w M) : SH U G w0 w (replC L i M) := by
  have k : SH (Ch.P F A).F Non w w M := ⟨Ext.refl _ _, hA.1.mono (fun b _ hb => .inl hb) (fun b _ hb => hb.elim)⟩
  exact H.upd hi trivial k
theorem SH.apartPO {α : Type} {_r : Row α} {A : World → Prop} {F : Nat → Prop} {E : TypeId} {v : Value} {xs : List α} {g : Option Nat} {i j : Nat} (H : SH U G w0 w L) (hi : At L i (.P F A)) (hj : At L j (.O E v xs g)) (hij : i ≠ j) : ∀ b, g = some b → ¬ F b :=
  fun b h1 h2 => H.val.apart hi hj hij (.inl trivial) b h2 h1
theorem SH.apartPR {α : Type} {_r : Row α} {A : World → Prop} {F K : Nat → Prop} {v : Value} {xs : List α} {i j : Nat} (H : SH U G w0 w L) (hi : At L i (.P F A)) (hj : At L j (.R K v xs)) (hij : i ≠ j) : ∀ b, K b → ¬ F b :=
  fun b h1 h2 => H.val.apart hi hj hij (.inl trivial) b h2 h1
end
end Go.V
