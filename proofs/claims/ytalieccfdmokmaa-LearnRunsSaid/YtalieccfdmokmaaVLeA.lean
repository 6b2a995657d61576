/-
  A learner: what it hears, what it knows, in plain Lean; and how it lies in memory.
-/
import Derived.Test.YtalieccfdmokmaaVBnB
import Derived.Test.YtalieccfdmokmaaVIns
import Derived.Test.YtalieccfdmokmaaVPut
import Derived.Test.YtalieccfdmokmaaVMap
namespace Go.Proofs.Ytalieccfdmokmaa
set_option linter.unusedSimpArgs false
set_option linter.unusedVariables false
set_option maxRecDepth 20000
open Go.V Go.RowKit Go.ChangeShapes Go.WideShapes

structure Ty where
  ballot : Int
  batch : Bat
  frm : Value
def Ty.L (a : Ty) : List Value := [.int .i64 a.ballot, .bool a.batch.fill, .int .i64 a.batch.view, .int .i64 a.batch.tip.view, .int .i64 a.batch.tip.slot, .int .i64 a.batch.time, a.batch.reqs, a.frm]
instance : Row Ty := ⟨8, Ty.L, ⟨0, ⟨false, 0, ⟨0, 0⟩, 0, .slice none 0 0⟩, .slice none 0 0⟩, fun _ => rfl, rfl⟩
def Ty.Good (w : World) (a : Ty) : Prop := I64 a.ballot ∧ Bat.Good w a.batch ∧ (∃ xs : List Int, Rs (Old w) w a.frm xs ∧ ∀ y ∈ xs, I64 y)
theorem Ty.opens : Opens Try.prog (α := Ty) 107 Ty.Good := fun H enc w base spare held fuel cs x hl h => by
  obtain ⟨u0, u1, u2, u3, u4, u5, u6, u7, rfl⟩ := list8 hl
  obtain ⟨m0, hf0⟩ := open_fields Try.underlying107 h
  obtain ⟨y0, t0⟩ := hf0 0 _ 1 rfl (by kernel_rfl)
  obtain ⟨a0, e0, -, w0⟩ := DataW.trod_int Try.underlying3 t0
  obtain rfl : u0 = _ := by simpa using e0
  obtain ⟨y1, t1⟩ := hf0 1 _ 6 rfl (by kernel_rfl)
  obtain ⟨a1, e1, o1, g1⟩ := Bat.opens H enc w base spare held _ _ _ rfl t1
  have q1 : [u1, u2, u3, u4, u5, u6] = Row.cells a1 := e1.symm
  simp only [Row.cells, Bat.L, List.cons.injEq, and_true] at q1
  obtain ⟨rfl, rfl, rfl, rfl, rfl, rfl⟩ := q1
  obtain ⟨y2, t2⟩ := hf0 2 _ 1 rfl (by kernel_rfl)
  obtain ⟨a2, xs2, e2, r2, g2⟩ := Opens.rows (β := Int) Try.underlying41 (opens_i64 Try.underlying3) (by kernel_rfl) t2
  obtain rfl : u7 = _ := by simpa using e2
  have o2 := r2.oneC
  have := List.all_eq_true.1 o1 (a1.reqs) (by simp [Row.cells, Bat.L])
  exact ⟨⟨a0, a1, u7⟩, rfl, (by first | rfl | (simp only [Row.cells, Ty.L, Bat.L]; repeat (first | rfl | refine Bool.and_eq_true_iff.2 ⟨(by first | rfl | assumption), ?_⟩))), ⟨i64_wf w0, g1, ⟨xs2, r2, g2⟩⟩⟩
/-- What was heard of a slot. -/
structure Tm where
  ballot : Int
  fill : Bool
  view : Int
  tip : Tp
  time : Int
  rs : List Rq
  frm : List Int
deriving DecidableEq
structure LnS where
  n : Int
  done : Int
  heard : List (Int × Tm)
def idK (z : Int) : Int := z
def chosenT (n : Int) (o : Option Tm) : Bool := match o with | some t => decide (n / 2 + 1 ≤ t.frm.length) | none => false
def tyNew (b : Int) (x : Bat) (rs : List Rq) : Tm := ⟨b, x.fill, x.view, x.tip, x.time, rs, []⟩
def insF (t : Tm) (i : Int) : Tm := ⟨t.ballot, t.fill, t.view, t.tip, t.time, t.rs, putK idK t.frm i⟩
def oldT (o : Option Tm) (b : Int) : Bool := match o with | some t => decide (b < t.ballot) | none => false
def baseT (o : Option Tm) (b : Int) (x : Bat) (rs : List Rq) : Tm := match o with | some t => if t.ballot < b then tyNew b x rs else t | none => tyNew b x rs
/-- May what comes be heard? -/
def askL (s : LnS) (i b sl : Int) (x : Bat) (rs : List Rq) : Prop := (0 ≤ i ∧ i < s.n) ∧ highM b 0 = true ∧ (1 ≤ sl ∧ sl ≤ 2305843009213693952) ∧ mayBat x.fill x.view x.tip x.time rs = true
instance (s : LnS) (i b sl : Int) (x : Bat) (rs : List Rq) : Decidable (askL s i b sl x rs) := by unfold askL; infer_instance
def hearM (s : LnS) (i b sl : Int) (x : Bat) (rs : List Rq) : LnS × Int :=
  if askL s i b sl x rs then
    if sl ≤ s.done ∨ chosenT s.n (lookM s.heard sl) = true then (s, 11)
    else if 9 < sl - s.done then (s, 5)
    else if oldT (lookM s.heard sl) b = true then (s, 11)
    else (⟨s.n, s.done, setM s.heard sl (insF (baseT (lookM s.heard sl) b x rs) i)⟩, 0)
  else (s, 1)
theorem hear_no {s : LnS} {i b sl : Int} {x : Bat} {rs : List Rq} (h : ¬ askL s i b sl x rs) : hearM s i b sl x rs = (s, 1) := by rw [hearM, if_neg h]
theorem hear_done {s : LnS} {i b sl : Int} {x : Bat} {rs : List Rq} (h : askL s i b sl x rs) (k : sl ≤ s.done ∨ chosenT s.n (lookM s.heard sl) = true) : hearM s i b sl x rs = (s, 11) := by rw [hearM, if_pos h, if_pos k]
theorem hear_full {s : LnS} {i b sl : Int} {x : Bat} {rs : List Rq} (h : askL s i b sl x rs) (k : ¬ (sl ≤ s.done ∨ chosenT s.n (lookM s.heard sl) = true)) (q : 9 < sl - s.done) : hearM s i b sl x rs = (s, 5) := by rw [hearM, if_pos h, if_neg k, if_pos q]
theorem hear_old {s : LnS} {i b sl : Int} {x : Bat} {rs : List Rq} (h : askL s i b sl x rs) (k : ¬ (sl ≤ s.done ∨ chosenT s.n (lookM s.heard sl) = true)) (q : ¬ 9 < sl - s.done) (o : oldT (lookM s.heard sl) b = true) : hearM s i b sl x rs = (s, 11) := by rw [hearM, if_pos h, if_neg k, if_neg q, if_pos o]
theorem hear_put {s : LnS} {i b sl : Int} {x : Bat} {rs : List Rq} (h : askL s i b sl x rs) (k : ¬ (sl ≤ s.done ∨ chosenT s.n (lookM s.heard sl) = true)) (q : ¬ 9 < sl - s.done) (o : ¬ oldT (lookM s.heard sl) b = true) :
    hearM s i b sl x rs = (⟨s.n, s.done, setM s.heard sl (insF (baseT (lookM s.heard sl) b x rs) i)⟩, 0) := by rw [hearM, if_pos h, if_neg k, if_neg q, if_neg o]
def trimL (s : LnS) (d : Int) : LnS := if d ≤ s.done ∨ 2305843009213693952 < d then s else ⟨s.n, d, s.heard.filter fun p => decide (d < p.1)⟩
/-- What was heard is as it should be. -/
structure OkT (n : Int) (t : Tm) : Prop where
  b0 : 0 ≤ t.ballot
  b1 : t.ballot ≤ 2305843009213693952
  may : mayBat t.fill t.view t.tip t.time t.rs = true
  up : UpK idK t.frm
  all : ∀ i ∈ t.frm, 0 ≤ i ∧ i < n
structure OkL (s : LnS) : Prop where
  n0 : 1 ≤ s.n
  n1 : s.n ≤ 7
  d0 : 0 ≤ s.done
  d1 : s.done ≤ 2305843009213693952
  nd : (s.heard.map (·.1)).Nodup
  all : ∀ p ∈ s.heard, s.done < p.1 ∧ OkT s.n p.2
theorem mayBat_len {f : Bool} {v : Int} {t : Tp} {m : Int} {rs : List Rq} (h : mayBat f v t m rs = true) : rs.length ≤ 3 := by
  rw [mayBat] at h
  split at h
  · have := of_decide_eq_true h; omega
  · rw [Bool.and_eq_true, Bool.and_eq_true] at h
    exact of_decide_eq_true h.1.2
theorem up_room : ∀ {l : List Int} {a : Int} {n : Nat}, UpK idK l → (∀ x ∈ l, a ≤ x ∧ x < a + n) → l.length ≤ n
  | [], a, n, _, _ => by simp
  | x :: l, a, n, h, hr => by
    obtain ⟨t, u⟩ := h.tail
    have h0 := hr x (by simp)
    have ih := up_room (l := l) (a := x + 1) (n := (a + n - (x + 1)).toNat) t (fun y hy => by have h1 : x < y := u y hy; have h2 := hr y (by simp [hy]); omega)
    rw [List.length_cons]; omega
theorem OkT.len {n : Int} {t : Tm} (h : OkT n t) (h0 : 0 ≤ n) (h7 : n ≤ 7) : t.frm.length ≤ 7 := up_room (a := 0) (n := 7) h.up fun x hx => by have := h.all x hx; omega
theorem put_keys {α : Type} : ∀ {l : List (Int × α)} {n : Int} {y : α}, (setM l n y).map (·.1) = if n ∈ l.map (·.1) then l.map (·.1) else l.map (·.1) ++ [n]
  | [], n, y => by simp [setM]
  | p :: r, n, y => by
    rw [setM]
    by_cases h : p.1 = n
    · rw [if_pos h, if_pos (by simp [h])]; simp [h]
    · rw [if_neg h, List.map_cons, put_keys, List.map_cons]
      by_cases k : n ∈ r.map (·.1)
      · rw [if_pos k, if_pos (List.mem_cons_of_mem _ k)]
      · rw [if_neg k, if_neg (by intro q; rcases List.mem_cons.1 q with q | q; exact h q.symm; exact k q)]; rfl
theorem put_nodup {α : Type} {l : List (Int × α)} {n : Int} {y : α} (h : (l.map (·.1)).Nodup) : ((setM l n y).map (·.1)).Nodup := by
  rw [put_keys]
  split
  · exact h
  · rename_i hn
    rw [List.nodup_append]
    exact ⟨h, by simp, fun a ha b hb e => by rw [List.mem_singleton] at hb; subst hb; subst e; exact hn ha⟩
theorem put_mem {α : Type} : ∀ {l : List (Int × α)} {n : Int} {y : α} {p : Int × α}, p ∈ setM l n y → p = (n, y) ∨ p ∈ l
  | [], n, y, p, h => by left; simpa [setM] using h
  | q :: r, n, y, p, h => by
    rw [setM] at h
    split at h
    · rcases List.mem_cons.1 h with h | h
      · exact .inl h
      · exact .inr (List.mem_cons_of_mem _ h)
    · rcases List.mem_cons.1 h with h | h
      · exact .inr (by rw [h]; exact List.mem_cons_self ..)
      · rcases put_mem h with h | h
        · exact .inl h
        · exact .inr (List.mem_cons_of_mem _ h)
theorem look_put {α : Type} : ∀ {l : List (Int × α)} {n k : Int} {y : α}, lookM (setM l n y) k = if n = k then some y else lookM l k
  | [], n, k, y => rfl
  | p :: r, n, k, y => by
    rw [setM]
    by_cases h : p.1 = n
    · rw [if_pos h, lookM, lookM]
      by_cases hk : n = k
      · rw [if_pos hk, if_pos hk]
      · rw [if_neg hk, if_neg hk, if_neg (by rw [h]; exact hk)]
    · rw [if_neg h, lookM, lookM]
      by_cases hk : p.1 = k
      · rw [if_pos hk, if_pos hk, if_neg (by rintro rfl; exact h hk)]
      · rw [if_neg hk, if_neg hk, look_put]
theorem look_filter {α : Type} (q : Int → Bool) : ∀ (l : List (Int × α)) (k : Int), lookM (l.filter fun p => q p.1) k = if q k = true then lookM l k else none
  | [], k => by simp [lookM]
  | p :: r, k => by
    rw [List.filter_cons]
    by_cases h : q p.1 = true
    · rw [if_pos h, lookM, lookM, look_filter q r k]
      by_cases hk : p.1 = k
      · rw [if_pos hk, if_pos hk, if_pos (by rw [← hk]; exact h)]
      · rw [if_neg hk, if_neg hk]
    · rw [if_neg h, look_filter q r k, lookM]
      by_cases hk : p.1 = k
      · rw [if_neg (by rw [← hk]; exact h), if_neg (by rw [← hk]; exact h)]
      · rw [if_neg hk]
theorem insF_ok {n b : Int} {t : Tm} {i : Int} (h : OkT n t) (h0 : 0 ≤ i) (h1 : i < n) : OkT n (insF t i) :=
  ⟨h.b0, h.b1, h.may, putK_up h.up, fun x hx => by
    rcases putK_mem hx with rfl | hx
    · exact ⟨h0, h1⟩
    · exact h.all x hx⟩
theorem base_ok {s : LnS} {i b sl : Int} {x : Bat} {rs : List Rq} (h : OkL s) (a : askL s i b sl x rs) : OkT s.n (baseT (lookM s.heard sl) b x rs) := by
  obtain ⟨a1, a2, a3, a4⟩ := a
  rw [highM_t] at a2
  have hnew : OkT s.n (tyNew b x rs) := ⟨a2.1, a2.2, a4, UpK.nil, fun i hi => by cases hi⟩
  cases ho : lookM s.heard sl with
  | none => exact hnew
  | some t =>
    rw [baseT]
    split
    · exact hnew
    · exact (h.all _ (look_mem ho)).2
theorem hear_ok {s : LnS} {i b sl : Int} {x : Bat} {rs : List Rq} (h : OkL s) : OkL (hearM s i b sl x rs).1 := by
  unfold hearM
  split
  · rename_i ha
    split
    · exact h
    · rename_i hd
      split
      · exact h
      · split
        · exact h
        · refine ⟨h.n0, h.n1, h.d0, h.d1, put_nodup h.nd, fun p hp => ?_⟩
          dsimp only at hp ⊢
          rcases put_mem hp with rfl | hp
          · exact ⟨by dsimp only; omega, insF_ok (b := b) (base_ok h ha) ha.1.1 ha.1.2⟩
          · exact h.all p hp
  · exact h
theorem trimL_ok {s : LnS} (d : Int) (h : OkL s) : OkL (trimL s d) := by
  unfold trimL
  split
  · exact h
  · refine ⟨h.n0, h.n1, by have := h.d0; dsimp only; omega, by dsimp only; omega, List.Nodup.sublist (List.Sublist.map _ List.filter_sublist) h.nd, fun p hp => ?_⟩
    obtain ⟨hp, hq⟩ := List.mem_filter.1 hp
    exact ⟨of_decide_eq_true hq, (h.all p hp).2⟩

/-! ### In memory -/
/-- An entry as it lies there, and as it is read. -/
structure TG where
  k : Int
  x : Ty
  m : Tm
  gq : Option Nat
  gf : Option Nat
def TG.ok (t : TG) : Prop := t.x.ballot = t.m.ballot ∧ t.x.batch.fill = t.m.fill ∧ t.x.batch.view = t.m.view ∧ t.x.batch.tip = t.m.tip ∧ t.x.batch.time = t.m.time
def TG.ch (t : TG) : List Ch := [.O 32 t.x.batch.reqs t.m.rs t.gq, .O 3 t.x.frm t.m.frm t.gf]
def chT (l : List TG) : List Ch := l.flatMap TG.ch
def kvT (l : List TG) : List (Int × Ty) := l.map fun t => (t.k, t.x)
def msT (l : List TG) : List (Int × Tm) := l.map fun t => (t.k, t.m)
theorem chT_app (a b : List TG) : chT (a ++ b) = chT a ++ chT b := by simp [chT]
theorem chT_own (l : List TG) : ∀ c ∈ chT l, c.own := fun c hc => by
  obtain ⟨t, ht, hc⟩ := List.mem_flatMap.1 hc
  simp only [TG.ch, List.mem_cons, List.not_mem_nil, or_false] at hc
  rcases hc with rfl | rfl <;> trivial
def HrA (l : List TG) (F : Nat → Prop) (w : World) : Prop := ObjA F w (chT l)
theorem hr_st {l : List TG} {F : Nat → Prop} : Ch.St F (HrA l F) := fun V w w' h e hd => ObjA.up h e hd
theorem AllOwn.of : ∀ {L : List Ch}, (∀ c ∈ L, c.own) → AllOwn L
  | [], _ => trivial
  | c :: L, h => ⟨h c (List.mem_cons_self ..), AllOwn.of fun d hd => h d (List.mem_cons_of_mem _ hd)⟩
section
variable {U G : Nat → Prop} {w0 w : World} {L M : List Ch}
theorem SH.perm (H : SH U G w0 w L) (h : L.Perm M) : SH U G w0 w M :=
  ⟨H.ext, fun c hc => H.val.1 c (h.mem_iff.2 hc), (h.pairwise_iff (fun {a b} q => Apart.symm q)).1 H.val.2⟩
/-- One entry is seen by itself. -/
theorem SH.entry {l1 l2 : List TG} {t : TG} {F : Nat → Prop} (H : SH U G w0 w (.P F (HrA (l1 ++ t :: l2) F) :: L)) :
    ∃ F', SH U G w0 w (.P F' (HrA (l1 ++ l2) F') :: .O 32 t.x.batch.reqs t.m.rs t.gq :: .O 3 t.x.frm t.m.frm t.gf :: L) := by
  have hA : ObjA F w (chT (l1 ++ t :: l2)) := SH.prop H (i := 0) rfl
  have H2 := SH.unpack H (i := 0) rfl hA
  have hp : (replC (Ch.P F (HrA (l1 ++ t :: l2) F) :: L) 0 (chT (l1 ++ t :: l2))).Perm (chT (l1 ++ l2) ++ (t.ch ++ L)) := by
    show (chT (l1 ++ t :: l2) ++ L).Perm _
    rw [chT_app, chT_app, show chT (t :: l2) = t.ch ++ chT l2 from by simp [chT]]
    simp only [List.append_assoc]
    refine List.Perm.append_left _ ?_
    rw [← List.append_assoc, ← List.append_assoc]
    exact List.Perm.append_right _ List.perm_append_comm
  exact ⟨_, SH.pack (SH.perm H2 hp) (AllOwn.of (chT_own _)) hr_st (fun h => h)⟩
/-- An entry is put to the others. -/
theorem SH.gather {l l' : List TG} {t : TG} {F : Nat → Prop} (H : SH U G w0 w (.P F (HrA l F) :: .O 32 t.x.batch.reqs t.m.rs t.gq :: .O 3 t.x.frm t.m.frm t.gf :: L)) (hl : l'.Perm (t :: l)) :
    ∃ F', SH U G w0 w (.P F' (HrA l' F') :: L) := by
  have hA : ObjA F w (chT l) := SH.prop H (i := 0) rfl
  have H2 := SH.unpack H (i := 0) rfl hA
  have hp : (replC (Ch.P F (HrA l F) :: .O 32 t.x.batch.reqs t.m.rs t.gq :: .O 3 t.x.frm t.m.frm t.gf :: L) 0 (chT l)).Perm (chT l' ++ L) := by
    show (chT l ++ (t.ch ++ L)).Perm _
    rw [← List.append_assoc]
    refine List.Perm.append_right _ ?_
    refine List.Perm.trans List.perm_append_comm ?_
    exact (List.Perm.flatMap_right _ hl).symm
  exact ⟨_, SH.pack (SH.perm H2 hp) (AllOwn.of (chT_own _)) hr_st (fun h => h)⟩
end
/-- The program's learner. -/
def LrnA (p : Nat) (s : LnS) (FN : Nat → Prop) (w : World) : Prop :=
  OkL s ∧ ∃ (b : Nat) (l : List TG) (F : Nat → Prop), msT l = s.heard ∧ (∀ t ∈ l, t.ok) ∧ ObjA FN w [.B p 104 [.int .i64 s.n, .int .i64 s.done, .map (some b)], .P (fun k => k = b) (Mp b (kvT l)), .P F (HrA l F)]
theorem lrn_st {p : Nat} {s : LnS} {FN : Nat → Prop} : Ch.St FN (LrnA p s FN) := fun V w w' h e hd => by
  obtain ⟨hs, b, l, F, h1, h2, h⟩ := h
  exact ⟨hs, b, l, F, h1, h2, h.up e hd⟩
theorem LrnA.lt {p : Nat} {s : LnS} {FN : Nat → Prop} {w : World} (h : LrnA p s FN w) : ∀ b, FN b → b < w.heap.size := by
  obtain ⟨_, _, _, _, _, _, h⟩ := h
  exact h.2
theorem LrnA.mkL {U G : Nat → Prop} {w0 w : World} {L : List Ch} {p b : Nat} {s : LnS} {l : List TG} {F : Nat → Prop} (hs : OkL s) (h1 : msT l = s.heard) (h2 : ∀ t ∈ l, t.ok)
    (H : SH U G w0 w ([.B p 104 [.int .i64 s.n, .int .i64 s.done, .map (some b)], .P (fun k => k = b) (Mp b (kvT l)), .P F (HrA l F)] ++ L)) : ∃ FN, SH U G w0 w (.P FN (LrnA p s FN) :: L) :=
  ⟨_, SH.pack (A := LrnA p s (foot [.B p 104 [.int .i64 s.n, .int .i64 s.done, .map (some b)], .P (fun k => k = b) (Mp b (kvT l)), .P F (HrA l F)])) H ⟨trivial, trivial, trivial, trivial⟩ lrn_st (fun h => ⟨hs, b, l, F, h1, h2, h⟩)⟩
theorem LrnA.mk {U G : Nat → Prop} {w0 w : World} {p b : Nat} {s : LnS} {l : List TG} {F : Nat → Prop} (hs : OkL s) (h1 : msT l = s.heard) (h2 : ∀ t ∈ l, t.ok)
    (H : SH U G w0 w [.B p 104 [.int .i64 s.n, .int .i64 s.done, .map (some b)], .P (fun k => k = b) (Mp b (kvT l)), .P F (HrA l F)]) : ∃ FN, SH U Non w0 w [.P FN (LrnA p s FN)] :=
  have ⟨FN, K⟩ := LrnA.mkL (L := []) hs h1 h2 H
  ⟨FN, SH.give (M := [.P _ _]) K (List.Sublist.refl _) ⟨trivial, trivial⟩⟩
theorem look_kv : ∀ {l : List TG} {n : Int}, lookM (kvT l) n = none → lookM (msT l) n = none
  | [], n, _ => rfl
  | t :: l, n, h => by
    simp only [kvT, msT, List.map_cons, lookM] at h ⊢
    split at h
    · cases h
    · rename_i hn
      rw [if_neg hn]; exact look_kv h
theorem look_at : ∀ {l : List TG} {n : Int} {x : Ty}, lookM (kvT l) n = some x → ∃ l1 t l2, l = l1 ++ t :: l2 ∧ t.k = n ∧ t.x = x ∧ lookM (msT l) n = some t.m ∧
      (∀ y : Ty, setM (kvT l) n y = kvT l1 ++ (n, y) :: kvT l2) ∧ (∀ m : Tm, setM (msT l) n m = msT l1 ++ (n, m) :: msT l2)
  | [], n, x, h => by cases h
  | t :: l, n, x, h => by
    simp only [kvT, msT, List.map_cons, lookM] at h ⊢
    split at h
    · rename_i hn
      cases h
      exact ⟨[], t, l, rfl, hn, rfl, by rw [if_pos hn], fun y => by simp [setM, hn, kvT], fun m => by simp [setM, hn, msT]⟩
    · rename_i hn
      obtain ⟨l1, t', l2, e1, e2, e3, e4, e5, e6⟩ := look_at (l := l) h
      refine ⟨t :: l1, t', l2, by rw [e1]; rfl, e2, e3, by rw [if_neg hn]; exact e4, fun y => ?_, fun m => ?_⟩
      · rw [setM, if_neg hn]; exact congrArg _ (e5 y)
      · rw [setM, if_neg hn]; exact congrArg _ (e6 m)
theorem put_new {α : Type} : ∀ {l : List (Int × α)} {n : Int} {y : α}, lookM l n = none → setM l n y = l ++ [(n, y)]
  | [], n, y, _ => rfl
  | p :: r, n, y, h => by
    rw [lookM] at h
    split at h
    · cases h
    · rename_i hp
      rw [setM, if_neg hp, put_new h]; rfl
end Go.Proofs.Ytalieccfdmokmaa
