/-
  The rules once more, so that their side proofs are found by themselves; runs of quiet operations. No program here; slices.Insert of one promise in the middle, whatever the promises are; A function that defers one closure which recovers, in the calculus of the base text, whatever the program. No statement of the claim stands here
-/
import Derived.Test.YtgmmbdmdimkfjaaGreatPI04
import Derived.Test.YtgmmbdmdimkfjaaGreatChecked
import Derived.Test.YtgmmbdmdimkfjaaGreatPI02
import Derived.Recover
namespace Go.V
set_option linter.unusedSimpArgs false
set_option linter.unusedVariables false
open Go.RowKit
structure Imp (p q : Prop) : Prop where
  go : q → p
theorem Imp.rfl {p : Prop} : Imp p p := ⟨id⟩
theorem EV {p : Prop} (h : p := by simp only [upd_get, ev, Nat.reduceEqDiff, ↓reduceIte] <;> rfl) : p := h
theorem AT {p : Prop} (h : p := by (repeat first | exact At.here | apply At.there); done) : p := h
theorem RS0 {p : Prop} (h : p := by first | assumption | exact SH.rsR H AT | exact SH.rsO H AT) : p := h
theorem RS {p : Prop} (h : p := by first | assumption | exact SH.rsR H AT | exact SH.rsO H AT | exact (Rs.nil : Rs Non _ _ _)) : p := h
theorem RSl {p : Prop} (h : p := by first | assumption | exact SH.rsR H AT | exact SH.rsO H AT | exact Rs.toH RS0 (by omega) | exact Rs.toL RS0 (by omega) | exact Rs.toLH RS0 (by omega) (by omega) | exact (Rs.nil : Rs Non _ _ _)) : p := h
theorem UN {p : Prop} (h : p := by simp <;> rfl) : p := h
theorem SM {p : Prop} (h : p := by intro w; simp <;> rfl) : p := h
theorem SB {p : Prop} (h : p := by repeat first | exact List.Sublist.refl _ | exact List.nil_sublist _ | apply List.Sublist.cons_cons | apply List.Sublist.cons) : p := h
theorem HS {p : Prop} (h : p := by simp only [List.map_cons, List.map_nil, List.map_toArray, List.toList_toArray, upd_get, ev, Nat.reduceEqDiff, ↓reduceIte] <;> rfl) : p := h
theorem BN {p : Prop} (h : p := by simp only [List.map_cons, List.map_nil, List.toList_toArray, numbered, Nat.reduceAdd, upd_get, ev, Nat.reduceEqDiff, ↓reduceIte] <;> rfl) : p := h
theorem BV {p : Prop} (h : p := by simp only [List.map_cons, List.map_nil, List.toList_toArray, List.foldl_cons, List.foldl_nil, List.replicate_succ, List.replicate_zero, List.set_cons_zero, List.set_cons_succ, upd_get, ev, Nat.reduceEqDiff, ↓reduceIte] <;> rfl) : p := h
theorem zb : (∀ (p : Prop) [Decidable p], (decide p = true) = p) ∧ (∀ (p : Prop) [Decidable p], (decide p = false) = ¬p) ∧ (∀ a b : Bool, ((a && b) = true) = (a = true ∧ b = true)) ∧ (∀ a b : Bool, ((a || b) = true) = (a = true ∨ b = true)) ∧ (∀ a b : Bool, ((a && b) = false) = (a = false ∨ b = false)) ∧
    (∀ a b : Bool, ((a || b) = false) = (a = false ∧ b = false)) ∧ (∀ a : Bool, ((!a) = true) = (a = false)) ∧ (∀ a : Bool, ((!a) = false) = (a = true)) ∧ (∀ (α : Type) [BEq α] [LawfulBEq α] (a b : α), ((a == b) = true) = (a = b)) ∧ (∀ (α : Type) [BEq α] [LawfulBEq α] (a b : α), ((a != b) = true) = (a ≠ b)) ∧
    (∀ (α : Type) (a b : α), (a ≠ b) = ¬ a = b) ∧ (∀ (p : Prop) [Decidable p], (¬¬p) = p) := by
  refine ⟨fun p _ => by simp, fun p _ => by simp, fun a b => by simp, fun a b => by simp, fun a b => by cases a <;> cases b <;> simp, fun a b => by simp, fun a => by simp, fun a => by simp, fun α _ _ a b => by simp, fun α _ _ a b => by simp, fun α a b => rfl, fun p _ => by simp⟩
theorem zd : (∀ (p : Prop) [Decidable p], (decide p = true) = p) ∧ (∀ (p : Prop) [Decidable p], (decide p = false) = ¬p) ∧ (∀ a b : Bool, ((a && b) = true) = (a = true ∧ b = true)) ∧ (∀ a b : Bool, ((a || b) = true) = (a = true ∨ b = true)) ∧ (∀ a b : Bool, ((a && b) = false) = (a = false ∨ b = false)) ∧
    (∀ a b : Bool, ((a || b) = false) = (a = false ∧ b = false)) ∧ (∀ a : Bool, ((!a) = true) = (a = false)) ∧ (∀ a : Bool, ((!a) = false) = (a = true)) ∧ (∀ (α : Type) [BEq α] [LawfulBEq α] (a b : α), ((a == b) = true) = (a = b)) ∧ (∀ (α : Type) [BEq α] [LawfulBEq α] (a b : α), ((a != b) = true) = (a ≠ b)) := by
  refine ⟨fun p _ => by simp, fun p _ => by simp, fun a b => by simp, fun a b => by simp, fun a b => by cases a <;> cases b <;> simp, fun a b => by simp, fun a => by simp, fun a => by simp, fun α _ _ a b => by simp, fun α _ _ a b => by simp⟩
theorem Rs.cell2 {α : Type} [Row α] {F : Nat → Prop} {w : World} {v : Value} {xs : List α} (h : Rs F w v xs) {i o p : Nat} {x : α} {u : Value} (hx : xs[i]? = some x) (hu : (Row.cells x)[o + p]? = some u) : w.cell? ⟨vb v, vo v + i * Row.sz α + o + p, none⟩ = some u := by
  have := h.cell hx hu
  rwa [← Nat.add_assoc] at this
/-- What a load finds. -/
theorem LD {p : Prop} (h : p := by first
  | exact SH.cellB H AT (by rfl)
  | exact SH.cellI H AT (by rfl)
  | exact Rs.cell RS (by assumption) (by rfl)
  | exact Rs.cell2 RS (by assumption) (by rfl)
  | exact Rs.cell0 RS (by assumption) (by rfl)
  | assumption) : p := h
theorem W64 {p : Prop} (h : p := by first | exact wr_i64 (by omega) (by omega) | exact wr_u8 (by omega) (by omega) | exact wr_u64 (by omega) (by omega)) : p := h
theorem zm {p q : Prop} (h : p = q := by simp only [setL, keepE, upd_get, ev, Nat.reduceEqDiff, ↓reduceIte] <;> rfl) : Imp p q := ⟨fun x => h ▸ x⟩
section
variable {P : Program} {N : Fr} {ops : Array Oper} {rest : List Oper} {Q : EPost} {ρ : Env} {w : World} {d : Nat} {ty T T2 E : TypeId} {pos : String} {af : Array Edge} {x y z : Operand} {k k' : IntKind} {m n : Int}
theorem zg {p q : Prop} (h : Imp p q) (k : q) : p := h.go k
theorem zt {p q r : Prop} (h : Imp p q) (k : Imp q r) : Imp p r := ⟨fun x => h.go (k.go x)⟩
theorem iM (hd : Nat.blt d N.n = true := by rfl)  : Imp (LW P N ops (⟨some d, .move x, ty, pos, af, none⟩ :: rest) Q ρ w) (LW P N ops rest Q (upd ρ d (ev ρ x)) w) := ⟨LW.v hd (x_move)⟩
theorem iA (hd : Nat.blt d N.n = true := by rfl)  : Imp (LW P N ops (⟨some d, .assign x, ty, pos, af, none⟩ :: rest) Q ρ w) (LW P N ops rest Q (upd ρ d (ev ρ x)) w) := ⟨LW.v hd (x_assign)⟩
theorem iN {a : Bool} (hd : Nat.blt d N.n = true := by rfl) (hx : ev ρ x = .bool a := by rfl) : Imp (LW P N ops (⟨some d, .unOp .not T x, ty, pos, af, none⟩ :: rest) Q ρ w) (LW P N ops rest Q (upd ρ d (.bool (!a))) w) := ⟨LW.v hd (x_not hx)⟩
theorem iK {a : Addr} (hd : Nat.blt d N.n = true := by rfl) (hx : ev ρ x = .pointer (some a) := by rfl) : Imp (LW P N ops (⟨some d, .nilCheck x, ty, pos, af, none⟩ :: rest) Q ρ w) (LW P N ops rest Q (upd ρ d (.pointer (some a))) w) := ⟨LW.v hd (x_nilCheck hx)⟩
theorem iE {vs : Array Value} {i : Nat} {v : Value} (hd : Nat.blt d N.n = true := by rfl) (hx : ev ρ x = .tuple vs := by exact EV) (hv : vs[i]? = some v := by simp only [List.getElem?_toArray, List.getElem?_cons_zero, List.getElem?_cons_succ] <;> rfl) : Imp (LW P N ops (⟨some d, .extract x i, ty, pos, af, none⟩ :: rest) Q ρ w) (LW P N ops rest Q (upd ρ d (v)) w) := ⟨LW.v hd (x_extract hx hv)⟩
theorem fA (c : Nat) {b o : Nat} {fs : Array Field} {i : Nat} {f : Field} {s : Nat} (hd : Nat.blt d N.n = true := by rfl) (hT : P.underlying T = some (.struct fs) := by exact UN) (hf : fs[i]? = some f := by rfl) (hs : ∀ w, (sizeOf f.type).run P w = .ok s w := by exact SM) (h0 : s ≠ 0 := by decide) (hx : ev ρ x = .pointer (some ⟨b, o, none⟩) := by rfl) (hk : o + f.offset = c := by rfl) :
    Imp (LW P N ops (⟨some d, .fieldAddr T x i, ty, pos, af, none⟩ :: rest) Q ρ w) (LW P N ops rest Q (upd ρ d (.pointer (some ⟨b, c, none⟩))) w) := ⟨LW.v hd (x_fieldAddrO hT hf hs h0 hk hx)⟩
theorem fB (c : Nat) {b o : Nat} {fs : Array Field} {i : Nat} {f : Field} {s : Nat} (hd : Nat.blt d N.n = true := by rfl) (hT : P.underlying T = some (.struct fs) := by exact UN) (hf : fs[i]? = some f := by rfl) (hs : ∀ w, (sizeOf f.type).run P w = .ok s w := by exact SM) (h0 : s ≠ 0 := by decide) (hx : ev ρ x = .pointer (some ⟨b, o, none⟩) := by rfl) (hk : f.offset = c := by rfl) :
    Imp (LW P N ops (⟨some d, .fieldAddr T x i, ty, pos, af, none⟩ :: rest) Q ρ w) (LW P N ops rest Q (upd ρ d (.pointer (some ⟨b, o + c, none⟩))) w) := ⟨LW.v hd (x_fieldAddrO hT hf hs h0 (by rw [hk]) hx)⟩
theorem zk {p q : Prop} (h : q → p) : Imp p q := ⟨h⟩
theorem iL {a : Addr} {v : Value} (hd : Nat.blt d N.n = true := by rfl) (hT : ∀ w, (isAgg T).run P w = .ok false w := by exact SM) (hx : ev ρ x = .pointer (some a) := by rfl) (hc : w.cell? a = some v := by exact LD) : Imp (LW P N ops (⟨some d, .load T x, ty, pos, af, none⟩ :: rest) Q ρ w) (LW P N ops rest Q (upd ρ d (v)) w) := ⟨LW.v hd (x_load hT hx hc)⟩
theorem iV {α : Type} {_r : Row α} {F : Nat → Prop} {v : Value} {xs : List α} (hd : Nat.blt d N.n = true := by rfl) (hT : P.underlying T = some (.slice E) := by exact UN) (hx : ev ρ x = v := by exact EV) (hr : Rs F w v xs := by exact RS) : Imp (LW P N ops (⟨some d, .call { callee := .builtin .len, args := #[x], argTypes := #[T] }, ty, pos, af, none⟩ :: rest) Q ρ w) (LW P N ops rest Q (upd ρ d (.int .i64 xs.length)) w) := ⟨LW.v hd (x_lenV hT hx hr)⟩
theorem iV0 {ao : Option Addr} {l c : Nat} (hd : Nat.blt d N.n = true := by rfl) (hT : P.underlying T = some (.slice E) := by exact UN) (hx : ev ρ x = .slice ao l c := by rfl) : Imp (LW P N ops (⟨some d, .call { callee := .builtin .len, args := #[x], argTypes := #[T] }, ty, pos, af, none⟩ :: rest) Q ρ w) (LW P N ops rest Q (upd ρ d (.int .i64 l)) w) := ⟨LW.v hd (x_len hT hx)⟩
theorem iVV {p q : Prop} (h : Imp p q := by first | exact iV (hr := RS0) | exact iV0 | exact iV (hr := RSl)) : Imp p q := h
theorem iI {α : Type} {_r : Row α} {F : Nat → Prop} {v : Value} {xs : List α} (hd : Nat.blt d N.n = true := by rfl) (hT : P.underlying T = some (.slice E) := by exact UN) (hx : ev ρ x = v := by exact EV) (hy : ev ρ y = .int k m := by rfl) (hr : Rs F w v xs := by exact RS) (hs : ∀ w, (sizeOf E).run P w = .ok (Row.sz α) w := by exact SM) (h0 : 0 ≤ m := by omega) (h1 : m < xs.length := by omega) : Imp (LW P N ops (⟨some d, .indexAddr T x y, ty, pos, af, none⟩ :: rest) Q ρ w) (LW P N ops rest Q (upd ρ d (.pointer (some ⟨vb v, vo v + m.toNat * Row.sz α, none⟩))) w) := ⟨LW.v hd (x_indexAddrV hT hx hy hr hs h0 h1)⟩
theorem ilt (hd : Nat.blt d N.n = true := by rfl) (hx : ev ρ x = .int k m := by rfl) (hy : ev ρ y = .int k n := by rfl) : Imp (LW P N ops (⟨some d, .binOp .lss T x y T2, ty, pos, af, none⟩ :: rest) Q ρ w) (LW P N ops rest Q (upd ρ d (.bool (decide (m < n)))) w) := ⟨LW.v hd (x_lss hx hy)⟩
theorem igt (hd : Nat.blt d N.n = true := by rfl) (hx : ev ρ x = .int k m := by rfl) (hy : ev ρ y = .int k n := by rfl) : Imp (LW P N ops (⟨some d, .binOp .gtr T x y T2, ty, pos, af, none⟩ :: rest) Q ρ w) (LW P N ops rest Q (upd ρ d (.bool (decide (n < m)))) w) := ⟨LW.v hd (x_gtr hx hy)⟩
theorem ige (hd : Nat.blt d N.n = true := by rfl) (hx : ev ρ x = .int k m := by rfl) (hy : ev ρ y = .int k n := by rfl) : Imp (LW P N ops (⟨some d, .binOp .geq T x y T2, ty, pos, af, none⟩ :: rest) Q ρ w) (LW P N ops rest Q (upd ρ d (.bool (decide (n ≤ m)))) w) := ⟨LW.v hd (x_geq hx hy)⟩
theorem ieq (hd : Nat.blt d N.n = true := by rfl) (hx : ev ρ x = .int k m := by rfl) (hy : ev ρ y = .int k n := by rfl) : Imp (LW P N ops (⟨some d, .binOp .eql T x y T2, ty, pos, af, none⟩ :: rest) Q ρ w) (LW P N ops rest Q (upd ρ d (.bool (decide (m = n)))) w) := ⟨LW.v hd (x_eql hx hy)⟩
theorem ine (hd : Nat.blt d N.n = true := by rfl) (hx : ev ρ x = .int k m := by rfl) (hy : ev ρ y = .int k n := by rfl) : Imp (LW P N ops (⟨some d, .binOp .neq T x y T2, ty, pos, af, none⟩ :: rest) Q ρ w) (LW P N ops rest Q (upd ρ d (.bool (decide (m ≠ n)))) w) := ⟨LW.v hd (x_neq hx hy)⟩
theorem iP (hd : Nat.blt d N.n = true := by rfl) (hx : ev ρ x = .int k m := by rfl) (hy : ev ρ y = .int k n := by rfl) (hw : k.wrap (m + n) = m + n := by exact W64) : Imp (LW P N ops (⟨some d, .binOp .add T x y T2, ty, pos, af, none⟩ :: rest) Q ρ w) (LW P N ops rest Q (upd ρ d (.int k (m + n))) w) := ⟨LW.v hd (x_add hx hy hw)⟩
theorem iS (hd : Nat.blt d N.n = true := by rfl) (hx : ev ρ x = .int k m := by rfl) (hy : ev ρ y = .int k n := by rfl) (hw : k.wrap (m - n) = m - n := by exact W64) : Imp (LW P N ops (⟨some d, .binOp .sub T x y T2, ty, pos, af, none⟩ :: rest) Q ρ w) (LW P N ops rest Q (upd ρ d (.int k (m - n))) w) := ⟨LW.v hd (x_sub hx hy hw)⟩
theorem iX (hd : Nat.blt d N.n = true := by rfl) (hx : ev ρ x = .int k m := by rfl) (hy : ev ρ y = .int k n := by rfl) (hw : k.wrap (m * n) = m * n := by exact W64) : Imp (LW P N ops (⟨some d, .binOp .mul T x y T2, ty, pos, af, none⟩ :: rest) Q ρ w) (LW P N ops rest Q (upd ρ d (.int k (m * n))) w) := ⟨LW.v hd (x_mul hx hy hw)⟩
theorem iW (hd : Nat.blt d N.n = true := by rfl) (hT : P.underlying T = some (.int k) := by exact UN) (hT2 : P.underlying T2 = some (.int k') := by exact UN) (hx : ev ρ x = .int k m := by rfl) (hw : k'.wrap m = m := by exact W64) : Imp (LW P N ops (⟨some d, .convert T T2 x, ty, pos, af, none⟩ :: rest) Q ρ w) (LW P N ops rest Q (upd ρ d (.int k' m)) w) := ⟨LW.v hd (x_convI hT hT2 hx hw)⟩
theorem zr {id : Nat} {l : List Oper} (h : LW P N l.toArray l Q ρ w) : CW P N (.region id l.toArray false) Q ρ w := CW.region h
theorem zn {K : Env → World → Prop} {C : Env → World → Prop} (hK : ∀ ρ w, C ρ w → K ρ w) (h : C ρ w) : LW P N ops [] (thenE K Q) ρ w := LW.nil (thenE_norm (hK _ _ h))
theorem zc {K : Env → World → Prop} {C : Env → World → Prop} (ts : List Nat) (hK : ∀ ρ w, C ρ w → K ρ w) (h : ∀ σ, C (keepE σ ρ ts) w) : LW P N ops [] (thenE K Q) ρ w := LW.nil (thenE_norm (cut ts fun σ => hK _ _ (h σ)))
theorem tR {K : Env → World → Prop} {Q : EPost} {ρ : Env} {w : World} (h : Q .ret ρ w) : thenE K Q .ret ρ w := h
theorem bR {Q : EPost} {ρ : Env} {w : World} {i : Nat} (h : Q .ret ρ w) : blockE i Q .ret ρ w := h
end
end Go.V
namespace Go.Proofs.YtgmmbdmdimkfjaaGreat
set_option linter.unusedSimpArgs false
set_option linter.unusedVariables false
open Go.V Go.RowKit Go.ChangeShapes Go.WideShapes
/-- Six cells, whatever they are. -/
structure R6 where
  l : List Value
  h : l.length = 6
instance : Row R6 := ⟨6, fun x => x.l, ⟨List.replicate 6 undef, rfl⟩, fun x => x.h, rfl⟩
set_option maxRecDepth 20000 in
set_option maxHeartbeats 2000000 in
theorem InsP_c {v : Value} {xs : List R6} {y : R6} {g : Option Nat} {bv capv : Nat} {cury : List Value} (i : Nat) (w : World) (hv : Ow 263 w v xs g) (hy : Blk w bv 263 cury) (hctv : cury.take (1 * Row.sz R6) = Row.cells y) (hyo : (Row.cells y).all oneC = true) (hncv : 1 ≤ capv) (hcmv : capv ≤ maxLen) (hap : g ≠ some bv) (hi : i < xs.length) (hn : xs.length ≤ 1000000) :
    Calls Tryz.prog 329 #[v, .int .i64 i, .slice (some ⟨bv, 0, none⟩) 1 capv] w fun e w' => ∃ v' g', e = .returned v' ∧ SH (fun b => g = some b) Non w w' [.O 263 v' (xs.take i ++ [y] ++ xs.drop i) g'] := by
  have h63 := hv.rs.len63
  have hil0 := hi
  have hi : i ≤ xs.length := Nat.le_of_lt hi
  have hyo : Ones [y] := fun x hx => by rw [List.mem_singleton] at hx; subst hx; exact hyo
  have hyr : Rs (fun b => b = bv) w (.slice (some ⟨bv, 0, none⟩) 1 capv) [y] := by
    refine ⟨⟨some ⟨bv, 0, none⟩, capv, rfl, hncv, hcmv, .inr ⟨bv, 0, rfl, rfl, ?_⟩⟩, hyo⟩
    have := Cells.part (o := 0) hy.cellsAll (1 * Row.sz R6)
    rw [List.drop_zero, hctv] at this
    simpa [flat] using this
  have hy1 : ([y] : List R6).length = 1 := rfl
  have H := SH.anyG (SH.own1 hv)
  replace H := SH.argI (A := fun u => Blk u bv 263 cury) (F := fun k => k = bv) H hy Ch.stB (fun b hb => by cases hb; exact Blk.lt hy) (fun b hb h => hap (by rw [← hb]; exact h))
  have hap : ∀ b, some bv = some b → g ≠ some b := fun b hb => by cases hb; exact hap
  have hfly : flat [y] = Row.cells y := by simp [flat]
  have hsrcY : ∀ u, Blk u bv 263 cury → Src Tryz.prog (Row.sz R6) u (.slice (some ⟨bv, 0, none⟩) 1 capv) 1 (Row.cells y) := fun u hb =>
    Src.cells (by have := Cells.part (o := 0) hb.cellsAll (1 * Row.sz R6); rw [List.drop_zero] at this; rw [← hctv]; exact this) (by rw [Row.len, Nat.one_mul]) (fun u hu => by have := hyo y (by simp); rw [List.all_eq_true] at this; exact this u hu)
  refine calls_of_CW Tryz.func329 rfl Tryz.ntmps329 (Nat.le_of_ble_eq_true rfl) ?_
  simp only [argE, argFrom, Nat.reduceAdd]
  refine CW.seq fun K1 h1 => zr ?_
  refine zg iA (zn h1 ?_); try clear h1
  refine CW.seq fun K2 h2 => zr ?_
  refine zg (zt iM iM) ?_
  refine zg (zk (r_sliceLV rfl Tryz.underlying230 EV rfl RSl (by exact Tryz.sizeOf263) (by omega) (by omega))) (zn h2 ?_); try clear h2
  refine CW.seq fun K3 h3 => zr ?_
  refine zg iM ?_
  refine zg (zt (zk (r_lenW rfl Tryz.underlying230 EV hyr)) iA) (zn h3 ?_); try clear h3
  refine CW.seq (fun K4 h4 => ?_)
  refine CW.seq fun K5 h5 => zr ?_
  refine zg (zt iM ieq) (zc [0, 1, 2, 7, 16] h5 fun σ => zg zm ?_); try clear h5
  refine CW.condF rfl (by simp) ?_
  refine CW.skip ?_
  refine thenE_norm (h4 _ _ ?_); clear h4; try clear K4
  refine CW.seq fun K6 h6 => zr ?_
  refine zg (zt iM (zt iVV iA)) (zn h6 ?_); try clear h6
  refine CW.seq (fun K7 h7 => ?_)
  refine CW.seq fun K8 h8 => zr ?_
  refine zg (zt iM (zt iM ieq)) (zn h8 ?_); try clear h8
  refine CW.condF rfl (by first | rfl | (simp only [zd]; omega) | simp_all) ?_
  refine CW.skip ?_
  refine thenE_norm (h7 _ _ ?_); clear h7; try clear K7
  refine CW.seq (fun K9 h9 => ?_)
  refine CW.seq (fun K10 h10 => ?_)
  have hil : i < xs.length := hil0
  obtain ⟨b, cap, cur, rfl, rfl, hnc, hcm, hcl, hct, hone, H⟩ := H.toB At.here (by rintro rfl; simp at hil)
  try dsimp only [replC, List.append_nil, List.cons_append, List.nil_append] at H
  have hc63 : cap ≤ 9223372036854775807 := by simpa [maxLen] using hcm
  have hfl := flat_len xs
  have hs0 : i * Row.sz R6 + (xs.length - i) * Row.sz R6 = xs.length * Row.sz R6 := by rw [← Nat.add_mul]; congr 1; omega
  have hs1 : xs.length * Row.sz R6 ≤ cap * Row.sz R6 := Nat.mul_le_mul_right _ hnc
  have hyl : (Row.cells y).length = Row.sz R6 := Row.len y
  have hdl : (flat (xs.drop i)).length = (xs.length - i) * Row.sz R6 := by rw [flat_len, List.length_drop]
  have hdo : ∀ u ∈ flat (xs.drop i), oneC u = true := (hone.drop i).flat
  have hneb : bv ≠ b := fun e => hap bv rfl (by rw [e])
  have hcti : cur.take (i * Row.sz R6) = flat (xs.take i) := by rw [flat_take, ← hct, List.take_take, Nat.min_eq_left (by omega)]
  refine CW.region ?_
  refine zg (zt iM (zt iM (zt iP iM))) ?_
  refine zg (zt (zk (r_cap rfl Tryz.underlying230 rfl)) igt) (zc [0, 1, 2, 7, 8, 31] h10 fun σ => zg zm ?_); try clear h10
  refine CW.cond rfl (fun hc3 => ?_) (fun hc3 => ?_)
  · try simp only [zb] at hc3
    refine CW.seq fun K11 h11 => zr ?_
    refine zg (zt iM iM) ?_
    refine zg (zt (zk (r_sliceHc rfl Tryz.underlying230 Tryz.sizeOf263 rfl rfl (by omega) (by omega))) (zt iM (zt iM (zt iP (zt iM iS))))) ?_
    refine s_growB (s := Row.sz R6) (p := i) (n := xs.length + 1 - i) (cs := flat (xs.take i)) H rfl Tryz.underlying230 Tryz.underlying3 Tryz.type263 rfl (by rfl) (by rfl) rfl rfl (by simp; omega) (by have := Cells.part (o := 0) (SH.cells H AT) (i * Row.sz R6); rw [List.drop_zero, hcti] at this; exact this) (by rw [flat_len, List.length_take, Nat.min_eq_left hi]) (by simp at *; omega) (by first | omega | (simp only [Tryz.t263]; omega) | (simp [Tryz.t263]; omega)) (by simp only [maxLen]; omega) (by omega) rfl ?_
    clear H
    intro b2 w9 cap2 cur2 hnc2 hcm2 hcl2 hct2 H
    try dsimp only [List.append_nil, List.cons_append, List.nil_append] at H
    have hs2 : (xs.length + 1) * Row.sz R6 ≤ cap2 * Row.sz R6 := Nat.mul_le_mul_right _ (by omega)
    refine zg iA (zc [0, 1, 2, 7, 9] h11 fun σ => zg zm ?_); try clear h11
    refine CW.seq fun K12 h12 => zr ?_
    refine zg (zt iM iM) ?_
    refine zg (zt (zk (r_sliceLp rfl Tryz.underlying230 Tryz.sizeOf263 rfl rfl (by omega) (by omega) (by omega))) iM) ?_
    refine s_copyB (m := 1) (q := 1) H rfl Tryz.underlying230 Tryz.type263 (by rfl) rfl rfl (At.there (At.there At.here)) (hsrcY _ (SH.propI H (i := 1) rfl)).2.2.1 (by omega) (hsrcY _ (SH.propI H (i := 1) rfl)).2.2.2.1 (hsrcY _ (SH.propI H (i := 1) rfl)).2.1 (hsrcY _ (SH.propI H (i := 1) rfl)).1 (by rw [hcl2]; show i * Row.sz R6 + 1 * Row.sz R6 ≤ _; rw [← Nat.add_mul]; exact Nat.mul_le_mul_right _ (by omega)) ?_
    clear H
    intro w10 H
    try dsimp only [replC, List.append_nil, List.cons_append, List.nil_append] at H
    refine LW.nil ?_
    refine thenE_norm (h12 _ _ ?_); clear h12; try clear K12
    refine CW.seq (fun K13 h13 => ?_)
    refine CW.drawP [] [] H (by dsimp only [pickC, nthC] <;> rfl) SB (by kernel_rfl) rfl ?_
    clear H
    intro w11d H
    refine DL.take (i := 0) [] rfl (by kernel_rfl) (by kernel_rfl) (by kernel_rfl) (by kernel_rfl) rfl rfl (fun u H => x_move ) (SH.sub H SB) ?_
    refine DL.take (i := 1) [] rfl (by kernel_rfl) (by kernel_rfl) (by kernel_rfl) (by kernel_rfl) rfl rfl (fun u H => x_move ) (SH.sub H SB) ?_
    refine DL.take (i := 2) [] rfl (by kernel_rfl) (by kernel_rfl) (by kernel_rfl) (by kernel_rfl) rfl rfl (fun u H => x_move ) (SH.sub H SB) ?_
    refine DL.take (i := 3) [] rfl (by kernel_rfl) (by kernel_rfl) (by kernel_rfl) (by kernel_rfl) rfl rfl (fun u H => x_add rfl rfl (wr_i64 (by omega) (by omega))) (SH.sub H SB) ?_
    refine DL.take (i := 4) [] rfl (by kernel_rfl) (by kernel_rfl) (by kernel_rfl) (by kernel_rfl) rfl rfl (fun u H => x_sliceLp Tryz.underlying230 Tryz.sizeOf263 rfl rfl (by simp; omega) (by simp; omega) (by simp; omega)) (SH.sub H SB) ?_
    refine DL.take (i := 5) [] rfl (by kernel_rfl) (by kernel_rfl) (by kernel_rfl) (by kernel_rfl) rfl rfl (fun u H => x_move ) (SH.sub H SB) ?_
    refine DL.take (i := 6) [] rfl (by kernel_rfl) (by kernel_rfl) (by kernel_rfl) (by kernel_rfl) rfl rfl (fun u H => x_move ) (SH.sub H SB) ?_
    refine DL.take (i := 7) [] rfl (by kernel_rfl) (by kernel_rfl) (by kernel_rfl) (by kernel_rfl) rfl rfl (fun u H => x_sliceLc Tryz.underlying230 Tryz.sizeOf263 rfl rfl (by omega) (by omega)) (SH.sub H SB) ?_
    refine DL.one (i := 8) (by kernel_rfl) rfl rfl ?_
    have hsrc := Blk.tail (P := Tryz.prog) (H.blk At.here) hct hcl hnc hcm hone.flat hi
    refine s_copyB (m := xs.length - i) (q := xs.length - i) H rfl Tryz.underlying230 Tryz.type263 (by rfl) rfl rfl (At.there (At.there At.here)) hsrc.2.2.1 (by simp; omega) hsrc.2.2.2.1 hsrc.2.1 hsrc.1 (by erw [splice_len (by rw [hcl2, hyl]; show i * Row.sz R6 + Row.sz R6 ≤ _; rw [← Nat.succ_mul]; exact Nat.mul_le_mul_right _ (by omega)), hcl2]; show ((i : Int) + ([y].length : Nat)).toNat * Row.sz R6 + _ ≤ _; rw [← Nat.add_mul]; exact Nat.mul_le_mul_right _ (by simp; omega)) ?_
    clear H
    intro w11 H
    try dsimp only [replC, List.append_nil, List.cons_append, List.nil_append] at H
    refine LW.nil (thenE_norm ⟨fun _ => (SH.sub H SB), ?_⟩)
    refine DL.done (by kernel_rfl) ?_
    refine thenE_norm ?_
    refine cut (K := K13) [9] (fun σ => ?_)
    refine zg zm ?_
    refine h13 _ _ ?_; clear h13; try clear K13
    refine CW.seq fun K14 h14 => zr ?_
    refine zg (zt iM iA) (zn h14 ?_); try clear h14
    refine CW.ret (tR (ret1 Tryz.results329 EV ?_))
    have hl2 : (i + 1) * Row.sz R6 = i * Row.sz R6 + Row.sz R6 := Nat.succ_mul _ _
    have hl3 : (xs.length + 1) * Row.sz R6 = (i + 1) * Row.sz R6 + (xs.length - i) * Row.sz R6 := by rw [← Nat.add_mul]; congr 1; omega
    have hD : (flat xs).drop (i * Row.sz R6) = flat (xs.drop i) := (flat_drop _ _).symm
    have hin : i * Row.sz R6 + (Row.cells y).length ≤ cur2.length := by rw [hcl2, hyl]; omega
    have htk : (spliceL (spliceL cur2 (i * Row.sz R6) (Row.cells y)) ((i + 1) * Row.sz R6) ((flat xs).drop (i * Row.sz R6))).take ((xs.length + 1) * Row.sz R6) = flat (xs.take i ++ [y] ++ xs.drop i) := by
      rw [flat_app, flat_app, hfly, ← hD]
      exact ins_grow (by omega) hct2 (by rw [hyl, hl2]) (by rw [hl3, hD, hdl]) (by rw [hcl2]; exact hs2)
    have hlen : (spliceL (spliceL cur2 (i * Row.sz R6) (Row.cells y)) ((i + 1) * Row.sz R6) ((flat xs).drop (i * Row.sz R6))).length = cap2 * Row.sz R6 := by
      rw [splice_len (by rw [splice_len hin, hD, hdl, hcl2, ← hl3]; exact hs2), splice_len hin, hcl2]
    have e : i + (xs.length + 1 - i) = xs.length + 1 := by omega
    rw [e]
    have hout := SH.ofB (cap := cap2) H (At.there (At.there At.here)) (xs.take i ++ [y] ++ xs.drop i) (xs.length + 1) (by simp; omega) (((hone.take i).app hyo).app (hone.drop i)) hlen (by omega) hcm2 htk
    exact ⟨_, _, rfl, SH.give (SH.sel hout [2] (by decide) rfl) (List.Sublist.refl _) ⟨trivial, trivial⟩⟩
  · try simp only [zb] at hc3
    refine CW.skip ?_
    refine thenE_norm (h9 _ _ ?_); clear h9; try clear K9
    refine CW.seq fun K15 h15 => zr ?_
    refine zg (zt iM (zt iM (zt iM iP))) ?_
    refine zg (zt (zk (r_sliceHc rfl Tryz.underlying230 Tryz.sizeOf263 rfl rfl (by omega) (by simp at *; omega))) iA) (zn h15 ?_); try clear h15
    refine CW.seq (fun K16 h16 => ?_)
    refine CW.seq fun K17 h17 => zr ?_
    refine zg (zt iM (zt iM (zt iM (zt iM iP)))) ?_
    refine zg (zk (r_sliceLp rfl Tryz.underlying230 Tryz.sizeOf263 rfl rfl (by simp; omega) (by simp; omega) (by simp at *; omega))) ?_
    refine r_callX rfl rfl (run_overlapsB (tS := 230) (tR := 4) Tryz.func387 (by kernel_rfl) (by kernel_rfl) (by kernel_rfl) (by kernel_rfl) Tryz.underlying230 Tryz.sizeOf263 hneb (SH.propI H (i := 1) rfl) (H.blk At.here) (by rw [hcl]; have := Nat.mul_pos (show 0 < cap by omega) (Nat.le_of_ble_eq_true (Row.pos (α := R6))); omega)) ?_
    refine zg iN (zc [0, 1, 2, 7, 8, 68] h17 fun σ => zg zm ?_); try clear h17
    refine CW.condT rfl (by first | rfl | (simp only [zd]; omega) | simp_all) ?_
    refine CW.seq (fun K18 h18 => ?_)
    refine CW.drawP [] [] H (by dsimp only [pickC, nthC] <;> rfl) SB (by kernel_rfl) rfl ?_
    clear H
    intro w15d H
    refine DL.take (i := 0) [] rfl (by kernel_rfl) (by kernel_rfl) (by kernel_rfl) (by kernel_rfl) rfl rfl (fun u H => x_move ) (SH.sub H SB) ?_
    refine DL.take (i := 1) [] rfl (by kernel_rfl) (by kernel_rfl) (by kernel_rfl) (by kernel_rfl) rfl rfl (fun u H => x_move ) (SH.sub H SB) ?_
    refine DL.take (i := 2) [] rfl (by kernel_rfl) (by kernel_rfl) (by kernel_rfl) (by kernel_rfl) rfl rfl (fun u H => x_move ) (SH.sub H SB) ?_
    refine DL.take (i := 3) [] rfl (by kernel_rfl) (by kernel_rfl) (by kernel_rfl) (by kernel_rfl) rfl rfl (fun u H => x_add rfl rfl (wr_i64 (by omega) (by omega))) (SH.sub H SB) ?_
    refine DL.take (i := 4) [] rfl (by kernel_rfl) (by kernel_rfl) (by kernel_rfl) (by kernel_rfl) rfl rfl (fun u H => x_sliceLp Tryz.underlying230 Tryz.sizeOf263 rfl rfl (by simp; omega) (by simp; omega) (by simp at *; omega)) (SH.sub H SB) ?_
    refine DL.take (i := 5) [] rfl (by kernel_rfl) (by kernel_rfl) (by kernel_rfl) (by kernel_rfl) rfl rfl (fun u H => x_move ) (SH.sub H SB) ?_
    refine DL.take (i := 6) [] rfl (by kernel_rfl) (by kernel_rfl) (by kernel_rfl) (by kernel_rfl) rfl rfl (fun u H => x_move ) (SH.sub H SB) ?_
    refine DL.take (i := 7) [] rfl (by kernel_rfl) (by kernel_rfl) (by kernel_rfl) (by kernel_rfl) rfl rfl (fun u H => x_sliceLp Tryz.underlying230 Tryz.sizeOf263 rfl rfl (by omega) (by simp; omega) (by simp at *; omega)) (SH.sub H SB) ?_
    refine DL.one (i := 8) (by kernel_rfl) rfl rfl ?_
    have hpt := Cells.part (o := i * Row.sz R6) (SH.cells H At.here) ((xs.length - i) * Row.sz R6)
    rw [show (cur.drop (i * Row.sz R6)).take ((xs.length - i) * Row.sz R6) = flat (xs.drop i) from by rw [flat_drop, ← hct, List.drop_take]; congr 1; omega] at hpt
    refine s_copyB (m := xs.length - i) (q := ((xs.length : Int) + ([y].length : Nat)).toNat - (i : Int).toNat) (news := flat (xs.drop i)) H rfl Tryz.underlying230 Tryz.type263 (by rfl) rfl rfl At.here (by first | (simp [Builtin.lenOf]; done) | (simp [Builtin.lenOf]; omega) | rfl) (by simp; omega) (run_firstCells_some (P := Tryz.prog) _ (Row.sz R6) (xs.length - i) ⟨b, i * Row.sz R6, none⟩ _ _ (flat (xs.drop i)) hdl (fun j u hj => by rw [addr_add]; exact hpt.get j u hj)) hdo hdl (by rw [hcl]; show (i + 1) * Row.sz R6 + _ ≤ _; rw [← Nat.add_mul]; exact Nat.mul_le_mul_right _ (by simp at *; omega)) ?_
    clear H
    intro w15 H
    try dsimp only [replC, List.append_nil, List.cons_append, List.nil_append] at H
    refine LW.nil (thenE_norm ⟨fun _ => (SH.sub H SB), ?_⟩)
    refine DL.done (by kernel_rfl) ?_
    refine thenE_norm ?_
    refine cut (K := K18) [0, 1, 2] (fun σ => ?_)
    refine zg zm ?_
    refine h18 _ _ ?_; clear h18; try clear K18
    refine CW.seq fun K19 h19 => zr ?_
    refine zg (zt iM iM) ?_
    refine zg (zt (zk (r_sliceLp rfl Tryz.underlying230 Tryz.sizeOf263 rfl rfl (by omega) (by simp; omega) (by simp at *; omega))) iM) ?_
    refine s_copyB (m := 1) (q := 1) H rfl Tryz.underlying230 Tryz.type263 (by rfl) rfl rfl At.here (hsrcY _ (SH.propI H (i := 1) rfl)).2.2.1 (by simp; omega) (hsrcY _ (SH.propI H (i := 1) rfl)).2.2.2.1 (hsrcY _ (SH.propI H (i := 1) rfl)).2.1 (hsrcY _ (SH.propI H (i := 1) rfl)).1 (by erw [splice_len (by rw [hcl, hdl]; show (i + 1) * Row.sz R6 + _ ≤ _; rw [← Nat.add_mul]; exact Nat.mul_le_mul_right _ (by simp at *; omega)), hcl]; show i * Row.sz R6 + 1 * Row.sz R6 ≤ _; rw [← Nat.add_mul]; exact Nat.mul_le_mul_right _ (by omega)) ?_
    clear H
    intro w16 H
    try dsimp only [replC, List.append_nil, List.cons_append, List.nil_append] at H
    refine LW.nil ?_
    refine thenE_norm (h19 _ _ ?_); clear h19; try clear K19
    refine CW.seq fun K20 h20 => zr ?_
    refine zg (zt iM iA) (zn h20 ?_); try clear h20
    refine CW.ret (tR (ret1 Tryz.results329 EV ?_))
    have hcap1 : xs.length + 1 ≤ cap := by simp at *; omega
    have hs2 : (xs.length + 1) * Row.sz R6 ≤ cap * Row.sz R6 := Nat.mul_le_mul_right _ hcap1
    have hl2 : (i + 1) * Row.sz R6 = i * Row.sz R6 + Row.sz R6 := Nat.succ_mul _ _
    have hl3 : (xs.length + 1) * Row.sz R6 = (i + 1) * Row.sz R6 + (xs.length - i) * Row.sz R6 := by rw [← Nat.add_mul]; congr 1; omega
    have hin : (i + 1) * Row.sz R6 + (flat (xs.drop i)).length ≤ cur.length := by rw [hcl, hdl, ← hl3]; exact hs2
    have htk : (spliceL (spliceL cur ((i + 1) * Row.sz R6) (flat (xs.drop i))) (i * Row.sz R6) (Row.cells y)).take ((xs.length + 1) * Row.sz R6) = flat (xs.take i ++ [y] ++ xs.drop i) := by
      rw [flat_app, flat_app, hfly]
      exact ins_room (by omega) hcti (by rw [hyl, hl2]) (by rw [hl3, hdl]) (by rw [hcl]; exact hs2)
    have hlen : (spliceL (spliceL cur ((i + 1) * Row.sz R6) (flat (xs.drop i))) (i * Row.sz R6) (Row.cells y)).length = cap * Row.sz R6 := by
      rw [splice_len (by rw [splice_len hin, hyl]; omega), splice_len hin, hcl]
    have hout := SH.ofB (cap := cap) H At.here (xs.take i ++ [y] ++ xs.drop i) (xs.length + 1) (by simp; omega) (((hone.take i).app hyo).app (hone.drop i)) hlen hcap1 hcm htk
    exact ⟨_, _, rfl, SH.give (SH.sel hout [0] (by decide) rfl) (List.Sublist.refl _) ⟨trivial, trivial⟩⟩
end Go.Proofs.YtgmmbdmdimkfjaaGreat
namespace Go.V
set_option linter.unusedSimpArgs false
set_option linter.unusedVariables false
open Go.RowKit
section
variable {P : Program}
theorem wpOpsS_of_wpOps {ops : Array Oper} {Q : Exit → Act → List Frame → World → Prop} {cs : List Frame} (hQ : ∀ a w, ¬ Q .outgrown a cs w) : ∀ (l : List Nat) (a : Act) (w : World),
    wpOps P ops (fun e a w => Q e a cs w) l a w → wpOpsS P ops Q l a cs w
  | [], a, w, h => h
  | i :: rest, a, w, h => by
    unfold wpOps at h
    unfold wpOpsS
    cases ho : ops[i]? with
    | none => rw [ho] at h; exact wpOpsS_of_wpOps hQ rest a w h
    | some o =>
      rw [ho] at h
      simp only at h ⊢
      split
      · rename_i hw
        rw [if_pos hw] at h
        rcases h with h | ⟨_, a₀, w₀, hq⟩
        · unfold Oper.wp at h
          split
          · rename_i w' hr
            rw [hr] at h
            exact h.elim
          · rename_i r hr
            generalize (execOp a.eval o).run P w = r' at h
            cases r' with
            | ok n w' =>
              cases n <;> simp only [Oper.upon] at h ⊢ <;>
                first
                  | exact wpOpsS_of_wpOps hQ rest _ _ h
                  | exact Calls.mono h (fun e w'' he => by
                      cases e with
                      | returned v => exact wpOpsS_of_wpOps hQ rest _ _ he
                      | panicked c => exact he
                      | outgrown => obtain ⟨a₀, w₀, hq⟩ := he; exact (hQ _ _ hq).elim)
                  | exact Rows.mono h (fun _ _ he => wpOpsS_of_wpOps hQ rest _ _ he)
            | halt x w' => cases x <;> simp only [Oper.upon] at h ⊢ <;> exact h
        · exact (hQ _ _ hq).elim
      · rename_i hw
        rw [if_neg hw] at h
        exact wpOpsS_of_wpOps hQ rest _ _ h
/-- A deferred closure whose first operation is recover: what it gets, and how the frame below goes on. -/
def Recovers (u : FrameMode) (v : Value) (u' : FrameMode) : Prop :=
  (∃ v0 older, u = .panicking ({ v := v0, recovered := false } :: older) ∧ v = v0 ∧ u' = .panicking ({ v := v0, recovered := true } :: older)) ∨ (u = .returning ∧ v = .nilIface ∧ u' = .returning)
theorem callsD_recover {f : FuncId} {fn : Func} {id n d : Nat} {o0 : Oper} {l : List Oper} {y : Code} {args : List Value} {u u' : FrameMode} {v : Value} {w : World} {R : World → Prop}
    (hf : P.funcs[f]? = some fn) (hb : fn.body = some (.seq (.region id (o0 :: l).toArray false) y)) (hN : fn.ntmps = n) (hl : args.length ≤ n) (hres : fn.results = #[])
    (ho : ∀ ρ w, (execOp ρ o0).run P w = .ok .recover w) (hg : o0.guard = none) (hd : o0.dst = some d) (hdn : Nat.blt d n = true) (hrec : Recovers u v u')
    (h : LW P ⟨n, []⟩ (o0 :: l).toArray l (thenE (fun ρ w' => CW P ⟨n, []⟩ y (fun e _ w' => (e = .normal ∨ e = .ret) ∧ R w') ρ w') (fun _ _ _ => False)) (upd (argE args) d v) w) :
    CallsD P f args.toArray u w fun e u'' w' => e = .returned (.tuple #[]) ∧ u'' = u' ∧ R w' := by
  refine callsD_of_wpS hf hb fun c₀ cs hu => ?_
  have hfits : Fits ⟨n, []⟩ (argE args) { tmps := args.toArray ++ Array.replicate (fn.ntmps - args.toArray.size) undef, defers := [] } := by
    refine ⟨rfl, by simp [hN]; omega, fun t => ?_⟩
    rw [argE_eq]
    simp only [Array.getD_eq_getD_getElem?, List.getD_eq_getElem?_getD, Array.getElem?_append, Array.getElem?_replicate, List.size_toArray, List.getElem?_toArray]
    split
    · rfl
    · rw [List.getElem?_eq_none (by omega)]
      split <;> rfl
  generalize hA : ({ tmps := args.toArray ++ Array.replicate (fn.ntmps - args.toArray.size) undef, defers := [] } : Act) = A at hfits ⊢
  apply wpS_seq
  apply wpS_region
  have hsz : (o0 :: l).toArray.size = l.length + 1 := by simp
  rw [hsz, List.range_eq_range', List.range'_succ]
  unfold wpOpsS
  have h0 : (o0 :: l).toArray[0]? = some o0 := by simp
  rw [h0]
  simp only [Region.wanted, hg, if_true, ho]
  -- what stands behind recover
  have tail : ∀ (cs' : List Frame), cs' = { c₀ with mode := u' } :: cs →
      wpOpsS P (o0 :: l).toArray (Exit.thenS (y.wpS P (bodyPostS P fn c₀ cs fun e u'' w' => e = .returned (.tuple #[]) ∧ u'' = u' ∧ R w')) (bodyPostS P fn c₀ cs fun e u'' w' => e = .returned (.tuple #[]) ∧ u'' = u' ∧ R w')) (List.range' (0 + 1) l.length) (A.put o0.dst v) cs' w := by
    intro cs' hcs
    subst hcs
    refine wpOpsS_of_wpOps ?_ _ _ _ ?_
    · rintro a w' ⟨_, h1, _⟩; cases h1
    · rw [wpOps_eq_wpList l (0 + 1) (fun j => by simp [Nat.add_comm 1 j])]
      have h1 := h (A.put o0.dst v) (by rw [hd]; exact hfits.put (N := ⟨n, []⟩) (Nat.le_of_ble_eq_true hdn) v)
      have mono : ∀ (l' : List Oper) (a : Act) (w' : World), wpList P (o0 :: l).toArray (lift ⟨n, []⟩ (thenE (fun ρ w' => CW P ⟨n, []⟩ y (fun e _ w' => (e = .normal ∨ e = .ret) ∧ R w') ρ w') (fun _ _ _ => False))) l' a w' →
          wpList P (o0 :: l).toArray (fun e a w' => Exit.thenS (y.wpS P (bodyPostS P fn c₀ cs fun e u'' w' => e = .returned (.tuple #[]) ∧ u'' = u' ∧ R w')) (bodyPostS P fn c₀ cs fun e u'' w' => e = .returned (.tuple #[]) ∧ u'' = u' ∧ R w') e a ({ c₀ with mode := u' } :: cs) w') l' a w' := by
        intro l'
        induction l' with
        | nil =>
          intro a w' ⟨ρ, hf', hq⟩
          refine wpS_of_wp (wp_mono (hq a hf') ?_)
          intro e a' w'' ⟨ρ', hf'', he, hR⟩
          have hr0 : (results fn a'.tmps).run P w'' = .ok (.tuple #[]) w'' := by simp [results, hres]
          rcases he with rfl | rfl <;> exact ⟨hf''.1, u', rfl, _, hr0, rfl, rfl, hR⟩
        | cons o r ih =>
          intro a w' hw
          unfold wpList at hw ⊢
          split at hw
          · rename_i hwant
            rw [if_pos hwant]
            rcases hw with hw | ⟨_, a₀, w₀, ρ, _, hq⟩
            · refine .inl ?_
              unfold Oper.wp at *
              generalize (execOp a.eval o).run P w' = res at *
              cases res with
              | ok m w'' =>
                cases m <;> simp only [Oper.upon] at hw ⊢ <;>
                  first
                    | exact ih _ _ hw
                    | exact Calls.mono hw (fun e w3 he => by
                        cases e with
                        | returned v => exact ih _ _ he
                        | panicked c => obtain ⟨_, _, hq⟩ := he; exact hq.elim
                        | outgrown => obtain ⟨_, _, _, _, hq⟩ := he; exact hq.elim)
                    | exact Rows.mono hw (fun _ _ he => ih _ _ he)
              | halt x w'' =>
                cases x <;> simp only [Oper.upon] at hw ⊢
                obtain ⟨_, _, hq⟩ := hw; exact hq.elim
            · exact hq.elim
          · rename_i hwant
            rw [if_neg hwant]
            exact ih _ _ hw
      exact mono l _ _ h1
  rcases hrec with ⟨v0, older, rfl, rfl, rfl⟩ | ⟨rfl, rfl, rfl⟩
  · have : recoverD (c₀ :: cs) = some (v, { c₀ with mode := .panicking ({ v := v, recovered := true } :: older) } :: cs) := by
      simp only [recoverD, hu]
    rw [this]
    exact tail _ rfl
  · have : recoverD (c₀ :: cs) = none := by simp only [recoverD, hu]
    rw [this]
    refine tail _ ?_
    rw [← hu]
/-- The region that makes the closure and defers it. -/
theorem defer_region {id n s : Nat} {caps : Array Operand} {cl : List Value} {ty1 ty2 : TypeId} {pos1 pos2 : String} {af1 af2 : Array Edge} {ρ : Env} {w : World} {Q : Exit → Act → World → Prop} {a : Act} {fi : FuncId}
    (hs : Nat.blt s n = true) (hc : caps.toList.map (ev ρ) = cl) (ha : Fits ⟨n, []⟩ ρ a)
    (h : ∀ a', Fits ⟨n, [{ target := .fn (.func fi) cl.toArray, args := #[] }]⟩ (upd ρ s (.func (.func fi) #[] cl.toArray)) a' → Q .normal a' w) :
    (Code.region id #[⟨some s, .makeFunc (.func fi) #[] caps, ty1, pos1, af1, none⟩, ⟨none, .defer { callee := .value (.tmp s), args := #[], argTypes := #[] }, ty2, pos2, af2, none⟩] false).wp P Q a w := by
  have hcap : caps.map a.eval = cl.toArray := by rw [ha.eval, ← hc, ← Array.toList_map]
  have hp := ha.put (N := ⟨n, []⟩) (Nat.le_of_ble_eq_true hs) (.func (.func fi) #[] cl.toArray)
  refine wp_region_lit (l := [_, _]) ?_
  refine wpList_plain rfl fun K hK => ?_
  unfold Oper.wp
  rw [show (execOp a.eval ⟨some s, .makeFunc (.func fi) #[] caps, ty1, pos1, af1, none⟩).run P w = .ok (.value (.func (.func fi) #[] cl.toArray)) w from by
    simp [execOp, Instr.makeFunc, hcap, Sem.run_pure, Sem.run_bind]]
  refine hK _ _ ?_
  refine wpList_plain rfl fun K2 hK2 => ?_
  unfold Oper.wp
  have he : (a.put (some s) (.func (.func fi) #[] cl.toArray)).eval (.tmp s) = .func (.func fi) #[] cl.toArray := by
    rw [hp.eval]; simp [ev, upd]
  rw [show (execOp (a.put (some s) (.func (.func fi) #[] cl.toArray)).eval ⟨none, .defer { callee := .value (.tmp s), args := #[], argTypes := #[] }, ty2, pos2, af2, none⟩).run P w = .ok (.defer { target := .fn (.func fi) cl.toArray, args := #[] }) w from by
    simp [execOp, resolve, he, Deferred.ofValue, Sem.run_pure, Sem.run_bind]]
  refine hK2 _ _ ?_
  refine wpList_nil (h _ ⟨?_, hp.2.1, hp.2.2⟩)
  have := hp.1
  simp [Act.put] at this ⊢
  exact this
/-- Behind the body: the one deferred closure, and what the frame then leaves. -/
def bodyDE (P : Program) (fn : Func) (R : Ending → World → Prop) (ds : List Deferred) : EPost
  | .normal, ρ, w | .ret, ρ, w => ∀ tmps : Array Value, (∀ t, tmps.getD t undef = ρ t) → Leaves P fn tmps R ds .returning w
  | .panic chain, ρ, w => ∀ tmps : Array Value, (∀ t, tmps.getD t undef = ρ t) → Leaves P fn tmps R ds (.panicking chain) w
  | _, _, _ => False
/-- The one deferred closure is called when the frame returns. -/
theorem leaves_ret {fn : Func} {fi : FuncId} {cl : List Value} {tmps : Array Value} {w : World} {R : Ending → World → Prop} {T : World → Prop} (hi : ∀ l w, (callFunc fi l).run P w = .ok (.enter fi l) w)
    (hc : CallsD P fi cl.toArray .returning w fun e u' w' => e = .returned (.tuple #[]) ∧ u' = .returning ∧ T w') (h : ∀ w', T w' → ∃ v, (results fn tmps).run P w' = .ok v w' ∧ R (.returned v) w') :
    Leaves P fn tmps R [{ target := .fn (.func fi) cl.toArray, args := #[] }] .returning w := by
  refine leaves_cons (f := fi) (args := cl.toArray) (by simp) (by simp [invoke, hi]) ?_
  intro c cs hu
  obtain ⟨e, u', w', fr, ⟨rfl, rfl, hT⟩, r⟩ := hc c cs hu
  exact ⟨_, _, w', fr, h w' hT, r⟩
/-- .. when the frame panics, and is caught. -/
theorem leaves_pan {fn : Func} {fi : FuncId} {cl : List Value} {tmps : Array Value} {w : World} {R : Ending → World → Prop} {T : World → Prop} {v0 : Value} (hi : ∀ l w, (callFunc fi l).run P w = .ok (.enter fi l) w)
    (hc : CallsD P fi cl.toArray (.panicking [{ v := v0, recovered := false }]) w fun e u' w' => e = .returned (.tuple #[]) ∧ u' = .panicking [{ v := v0, recovered := true }] ∧ T w') (h : ∀ w', T w' → ∃ v, (results fn tmps).run P w' = .ok v w' ∧ R (.returned v) w') :
    Leaves P fn tmps R [{ target := .fn (.func fi) cl.toArray, args := #[] }] (.panicking [{ v := v0, recovered := false }]) w := by
  refine leaves_cons (f := fi) (args := cl.toArray) (by simp) (by simp [invoke, hi]) ?_
  intro c cs hu
  obtain ⟨e, u', w', fr, ⟨rfl, rfl, hT⟩, r⟩ := hc c cs hu
  exact ⟨_, _, w', fr, h w' hT, r⟩
/-- A function whose body is: A; the region that defers; C. -/
theorem calls_of_CWD {f : FuncId} {fn : Func} {A C : Code} {id n s : Nat} {caps : Array Operand} {ty1 ty2 : TypeId} {pos1 pos2 : String} {af1 af2 : Array Edge} {l : List Value} {w : World} {R : Ending → World → Prop} {fi : FuncId}
    (hf : P.funcs[f]? = some fn)
    (hb : fn.body = some (.seq A (.seq (.region id #[⟨some s, .makeFunc (.func fi) #[] caps, ty1, pos1, af1, none⟩, ⟨none, .defer { callee := .value (.tmp s), args := #[], argTypes := #[] }, ty2, pos2, af2, none⟩] false) C)))
    (hN : fn.ntmps = n) (hl : l.length ≤ n) (hs : Nat.blt s n = true)
    (h : CW P ⟨n, []⟩ A (thenE (fun ρ w' => ∃ cl, caps.toList.map (ev ρ) = cl ∧ CW P ⟨n, [{ target := .fn (.func fi) cl.toArray, args := #[] }]⟩ C (bodyDE P fn R [{ target := .fn (.func fi) cl.toArray, args := #[] }]) (upd ρ s (.func (.func fi) #[] cl.toArray)) w') (fun _ _ _ => False)) (argE l) w) : Calls P f l.toArray w R := by
  have hfits : Fits ⟨n, []⟩ (argE l) { tmps := l.toArray ++ Array.replicate (fn.ntmps - l.toArray.size) undef, defers := [] } := by
    refine ⟨rfl, by simp [hN]; omega, fun t => ?_⟩
    rw [argE_eq]
    simp only [Array.getD_eq_getD_getElem?, List.getD_eq_getElem?_getD, Array.getElem?_append, Array.getElem?_replicate, List.size_toArray, List.getElem?_toArray]
    split
    · rfl
    · rw [List.getElem?_eq_none (by omega)]
      split <;> rfl
  refine calls_of_wp_defers hf hb (wp_seq (wp_mono (h _ hfits) ?_))
  intro e a w' ⟨ρ, hf', hq⟩
  cases e <;> first | exact hq.elim | skip
  obtain ⟨cl, hcl, hC⟩ := hq
  refine wp_seq (defer_region hs hcl hf' fun a' ha' => ?_)
  refine wp_mono (hC a' ha') ?_
  intro e a'' w'' ⟨ρ', hf'', hq⟩
  cases e with
  | normal => show Leaves P fn a''.tmps R a''.defers .returning w''; rw [hf''.1]; exact hq _ hf''.2.2
  | ret => show Leaves P fn a''.tmps R a''.defers .returning w''; rw [hf''.1]; exact hq _ hf''.2.2
  | panic c => show Leaves P fn a''.tmps R a''.defers (.panicking c) w''; rw [hf''.1]; exact hq _ hf''.2.2
  | exit i => exact hq.elim
  | goto i => exact hq.elim
  | outgrown => exact hq.elim
end
end Go.V
