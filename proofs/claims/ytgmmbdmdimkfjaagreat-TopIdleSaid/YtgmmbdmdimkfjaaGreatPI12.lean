/-
  A template of a heap: names and symbols matched with a heap that evaluation left. No statement of the claim stands here: these are rules, whatever the program; What a template stands for in a world: into evaluation with it, and out of it again. No statement of the claim stands here: these are rules, whatever the program; What a call sends, and what it leaves of a thing that templates stand for. No statement of the claim stands here: these are rules, whatever the program
-/
import Derived.Test.YtgmmbdmdimkfjaaGreatPI11
namespace Go.V
set_option linter.unusedSimpArgs false
set_option linter.unusedVariables false
open Go.RowKit
/-- Names, symbols of a template, and what they are matched with. -/
structure MT where
  nm : List (Nat × Nat)
  sy : List (Nat × IT)
def lkN : List (Nat × Nat) → Nat → Option Nat
  | [], _ => none
  | p :: r, n => bif Nat.beq p.1 n then some p.2 else lkN r n
def lkS : List (Nat × IT) → Nat → Option IT
  | [], _ => none
  | p :: r, n => bif Nat.beq p.1 n then some p.2 else lkS r n
def hasN : List (Nat × Nat) → Nat → Bool
  | [], _ => false
  | p :: r, m => Nat.beq p.2 m || hasN r m
theorem hasN_no : ∀ {l : List (Nat × Nat)} {m : Nat}, hasN l m = false → ∀ p ∈ l, p.2 ≠ m
  | [], _, _, p, hp => by cases hp
  | q :: r, m, h, p, hp => by
    simp only [hasN, Bool.or_eq_false_iff] at h
    rcases List.mem_cons.1 hp with rfl | hp
    · exact beqF h.1
    · exact hasN_no h.2 p hp
theorem lkN_mem : ∀ {l : List (Nat × Nat)} {n m : Nat}, lkN l n = some m → (n, m) ∈ l
  | [], n, m, h => by cases h
  | p :: r, n, m, h => by
    unfold lkN at h
    cases hb : Nat.beq p.1 n with
    | true => rw [hb] at h; cases h; rw [← beqT hb]; exact List.mem_cons_self ..
    | false => rw [hb] at h; exact List.mem_cons_of_mem _ (lkN_mem h)
/-- It is a map, both ways. -/
structure MT.WF (M : MT) : Prop where
  n : ∀ p ∈ M.nm, lkN M.nm p.1 = some p.2
  i : ∀ p ∈ M.nm, ∀ q ∈ M.nm, p.2 = q.2 → p.1 = q.1
  s : ∀ p ∈ M.sy, lkS M.sy p.1 = some p.2
def bindN (M : MT) (n m : Nat) : Option MT := match lkN M.nm n with
  | some k => bif Nat.beq k m then some M else none
  | none => bif hasN M.nm m then none else some ⟨(n, m) :: M.nm, M.sy⟩
def bindS (M : MT) (i : Nat) (t : IT) : Option MT := match lkS M.sy i with
  | some _ => none
  | none => some ⟨M.nm, (i, t) :: M.sy⟩
/-- What the match says of the names and symbols. -/
def MFits (M : MT) (A B : NM) : Prop := (∀ p ∈ M.nm, B.nm p.1 = A.nm p.2) ∧ ∀ p ∈ M.sy, B.sy p.1 = p.2.ev A.sy
/-- One match goes on from another. -/
structure MGo (M M' : MT) : Prop where
  n : ∀ p ∈ M.nm, p ∈ M'.nm
  s : ∀ p ∈ M.sy, p ∈ M'.sy
  w : M.WF → M'.WF
theorem MGo.refl (M : MT) : MGo M M := ⟨fun _ h => h, fun _ h => h, id⟩
theorem MGo.trans {M N K : MT} (h : MGo M N) (k : MGo N K) : MGo M K := ⟨fun p hp => k.n p (h.n p hp), fun p hp => k.s p (h.s p hp), fun q => k.w (h.w q)⟩
theorem MFits.back {M M' : MT} {A B : NM} (h : MFits M' A B) (g : MGo M M') : MFits M A B := ⟨fun p hp => h.1 p (g.n p hp), fun p hp => h.2 p (g.s p hp)⟩
theorem bindN_ok {M M' : MT} {n m : Nat} (h : bindN M n m = some M') : MGo M M' ∧ (n, m) ∈ M'.nm := by
  unfold bindN at h
  split at h
  · rename_i k hk
    cases hb : Nat.beq k m with
    | true => rw [hb] at h; cases h; have := beqT hb; subst this; exact ⟨MGo.refl _, lkN_mem hk⟩
    | false => rw [hb] at h; cases h
  · rename_i hk
    cases hb : hasN M.nm m with
    | true => rw [hb] at h; cases h
    | false =>
      rw [hb] at h
      cases h
      have hno := hasN_no hb
      refine ⟨⟨fun p hp => List.mem_cons_of_mem _ hp, fun p hp => hp, fun W => ⟨?_, ?_, W.s⟩⟩, List.mem_cons_self ..⟩
      · intro p hp
        rcases List.mem_cons.1 hp with rfl | hq
        · simp [lkN]
        · have hne : n ≠ p.1 := by
            rintro rfl
            rw [W.n p hq] at hk; cases hk
          have : Nat.beq n p.1 = false := by
            cases hq : Nat.beq n p.1 with
            | false => rfl
            | true => exact absurd (beqT hq) hne
          simp only [lkN, this, cond_false]
          exact W.n p hq
      · intro p hp q hq e
        rcases List.mem_cons.1 hp with rfl | hp <;> rcases List.mem_cons.1 hq with rfl | hq
        · rfl
        · exact absurd e.symm (hno q hq)
        · exact absurd e (hno p hp)
        · exact W.i p hp q hq e
theorem bindS_ok {M M' : MT} {i : Nat} {t : IT} (h : bindS M i t = some M') : MGo M M' ∧ (i, t) ∈ M'.sy := by
  unfold bindS at h
  split at h
  · cases h
  · rename_i hk
    cases h
    refine ⟨⟨fun p hp => hp, fun p hp => List.mem_cons_of_mem _ hp, fun W => ⟨W.n, W.i, ?_⟩⟩, List.mem_cons_self ..⟩
    intro p hp
    rcases List.mem_cons.1 hp with rfl | hq
    · simp [lkS]
    · have hne : i ≠ p.1 := by
        rintro rfl
        rw [W.s p hq] at hk; cases hk
      have : Nat.beq i p.1 = false := by
        cases hq : Nat.beq i p.1 with
        | false => rfl
        | true => exact absurd (beqT hq) hne
      simp only [lkS, this, cond_false]
      exact W.s p hq
def symOf : IT → Option Nat
  | .sym i => some i
  | _ => none
theorem symOf_ok {t : IT} {i : Nat} (h : symOf t = some i) : t = .sym i := by cases t <;> simp [symOf] at h; rw [h]
def uniE (k : IntKind) (t : IT) (b : AV) (M : MT) : Option MT := match symOf t, toIT b with
  | some i, some (k', u) => bif decide (k = k') then bindS M i u else none
  | _, _ => none
mutual
/-- A template's value and a value. -/
def uniV : AV → AV → MT → Option MT
  | .und, b, M => match b with
    | .und => some M
    | _ => none
  | .bool x, b, M => match b with
    | .bool y => bif bEq x y then some M else none
    | _ => none
  | .int j m, b, M => match b with
    | .int k n => bif kEq j k && iEq m n then some M else none
    | _ => none
  | .flt j m, b, M => none
  | .exp k t, b, M => uniE k t b M
  | .bex _, _, _ => none
  | .str s, b, M => match b with
    | .str t => bif sEq s t then some M else none
    | _ => none
  | .nilp, b, M => match b with
    | .nilp => some M
    | _ => none
  | .ptr n o, b, M => match b with
    | .ptr m q => bif Nat.beq o q then bindN M n m else none
    | _ => none
  | .nils, b, M => match b with
    | .nils => some M
    | _ => none
  | .sl n o l c s, b, M => match b with
    | .sl n' o' l' c' s' => bif Nat.beq o o' && (Nat.beq l l' && (oEq c c' && Nat.beq s s')) then bindN M n n' else none
    | _ => none
  | .sle, b, M => none
  | .nilm, b, M => match b with
    | .nilm => some M
    | _ => none
  | .map n, b, M => match b with
    | .map m => bindN M n m
    | _ => none
  | .func f x y, b, M => match b with
    | .func g u v => bif fEq f g then (match uniVs x u M with
      | some M' => uniVs y v M'
      | none => none) else none
    | _ => none
  | .nilf, b, M => match b with
    | .nilf => some M
    | _ => none
  | .iface t v, b, M => match b with
    | .iface u w => bif Nat.beq t u then uniV v w M else none
    | _ => none
  | .nilif, b, M => match b with
    | .nilif => some M
    | _ => none
  | .agg x, b, M => match b with
    | .agg y => uniVs x y M
    | _ => none
  | .tup x, b, M => match b with
    | .tup y => uniVs x y M
    | _ => none
  | .pan _, _, _ => none
def uniVs : List AV → List AV → MT → Option MT
  | [], b, M => match b with
    | [] => some M
    | _ => none
  | x :: r, b, M => match b with
    | y :: s => (match uniV x y M with
      | some M' => uniVs r s M'
      | none => none)
    | _ => none
end
theorem toIT_iff {A : NM} {a : AV} {V : Value} {k : IntKind} {t : IT} (h : toIT a = some (k, t)) : RV A a V ↔ V = .int k (t.ev A.sy) := by
  unfold toIT at h
  split at h
  · cases h; simp only [RV, IT.ev]
  · cases h; simp only [RV]
  · cases h
theorem uniE_ok {k : IntKind} {t : IT} {b : AV} {M M' : MT} (h : uniE k t b M = some M') : MGo M M' ∧ ∀ A B V, MFits M' A B → (RV A b V ↔ RV B (.exp k t) V) := by
  unfold uniE at h
  split at h
  · rename_i i k' u h1 h2
    cases hk : decide (k = k') with
    | false => rw [hk] at h; cases h
    | true =>
      rw [hk] at h
      have := of_decide_eq_true hk; subst this
      obtain ⟨h3, h4⟩ := bindS_ok h
      refine ⟨h3, fun A B V hF => ?_⟩
      rw [toIT_iff h2]
      simp only [RV]
      rw [symOf_ok h1, IT.ev, hF.2 _ h4]
  · cases h
mutual
theorem uniV_ok : ∀ (a b : AV) (M M' : MT), uniV a b M = some M' → MGo M M' ∧ ∀ A B V, MFits M' A B → (RV A b V ↔ RV B a V)
  | .und, b, M, M', h => by
    unfold uniV at h; split at h
    · cases h; exact ⟨MGo.refl _, fun A B V _ => by simp only [RV]⟩
    · cases h
  | .bool x, b, M, M', h => by
    unfold uniV at h; split at h
    · rename_i y
      cases hb : bEq x y with
      | true => rw [hb] at h; cases h; rw [bEq_ok hb]; exact ⟨MGo.refl _, fun A B V _ => by simp only [RV]⟩
      | false => rw [hb] at h; cases h
    · cases h
  | .int j m, b, M, M', h => by
    unfold uniV at h; split at h
    · rename_i k n
      cases hb : (kEq j k && iEq m n) with
      | true =>
        rw [hb] at h; cases h
        rw [Bool.and_eq_true] at hb
        rw [show j = k from of_decide_eq_true hb.1, iEq_ok hb.2]; exact ⟨MGo.refl _, fun A B V _ => by simp only [RV]⟩
      | false => rw [hb] at h; cases h
    · cases h
  | .flt _ _, b, M, M', h => by unfold uniV at h; cases h
  | .exp k t, b, M, M', h => by unfold uniV at h; exact uniE_ok h
  | .bex _, b, M, M', h => by unfold uniV at h; cases h
  | .str s, b, M, M', h => by
    unfold uniV at h; split at h
    · rename_i t
      cases hb : sEq s t with
      | true =>
        rw [hb] at h; cases h
        rw [sEq_ok] at hb
        rw [of_decide_eq_true hb]; exact ⟨MGo.refl _, fun A B V _ => by simp only [RV]⟩
      | false => rw [hb] at h; cases h
    · cases h
  | .nilp, b, M, M', h => by
    unfold uniV at h; split at h
    · cases h; exact ⟨MGo.refl _, fun A B V _ => by simp only [RV]⟩
    · cases h
  | .ptr n o, b, M, M', h => by
    unfold uniV at h; split at h
    · rename_i m q
      cases hb : Nat.beq o q with
      | true =>
        rw [hb] at h
        obtain ⟨h1, h2⟩ := bindN_ok h
        refine ⟨h1, fun A B V hF => ?_⟩
        have := beqT hb; subst this
        simp only [RV]
        rw [hF.1 _ h2]
      | false => rw [hb] at h; cases h
    · cases h
  | .nils, b, M, M', h => by
    unfold uniV at h; split at h
    · cases h; exact ⟨MGo.refl _, fun A B V _ => by simp only [RV]⟩
    · cases h
  | .sl n o l c s, b, M, M', h => by
    unfold uniV at h; split at h
    · rename_i n' o' l' c' s'
      cases hb : (Nat.beq o o' && (Nat.beq l l' && (oEq c c' && Nat.beq s s'))) with
      | true =>
        rw [hb] at h
        simp only [Bool.and_eq_true] at hb
        obtain ⟨h3, h4, h5, h6⟩ := hb
        obtain ⟨h1, h2⟩ := bindN_ok h
        have h3 := beqT h3
        have h4 := beqT h4
        have h5 := oEq_ok h5
        have h6 := beqT h6
        subst h3; subst h4; subst h5; subst h6
        refine ⟨h1, fun A B V hF => ?_⟩
        simp only [RV]
        rw [hF.1 _ h2]
      | false => rw [hb] at h; cases h
    · cases h
  | .sle, b, M, M', h => by unfold uniV at h; cases h
  | .nilm, b, M, M', h => by
    unfold uniV at h; split at h
    · cases h; exact ⟨MGo.refl _, fun A B V _ => by simp only [RV]⟩
    · cases h
  | .map n, b, M, M', h => by
    unfold uniV at h; split at h
    · obtain ⟨h1, h2⟩ := bindN_ok h
      refine ⟨h1, fun A B V hF => ?_⟩
      simp only [RV]
      rw [hF.1 _ h2]
    · cases h
  | .func f x y, b, M, M', h => by
    unfold uniV at h; split at h
    · rename_i g u v
      cases hb : fEq f g with
      | true =>
        rw [hb, cond_true] at h
        split at h
        · rename_i M1 h1
          obtain ⟨g1, k1⟩ := uniVs_ok x u M M1 h1
          obtain ⟨g2, k2⟩ := uniVs_ok y v M1 M' h
          refine ⟨g1.trans g2, fun A B V hF => ?_⟩
          simp only [RV, fEq_ok hb, k1 A B _ (hF.back g2), k2 A B _ hF]
        · cases h
      | false => rw [hb] at h; cases h
    · cases h
  | .nilf, b, M, M', h => by
    unfold uniV at h; split at h
    · cases h; exact ⟨MGo.refl _, fun A B V _ => by simp only [RV]⟩
    · cases h
  | .iface t v, b, M, M', h => by
    unfold uniV at h; split at h
    · rename_i u w
      cases hb : Nat.beq t u with
      | true =>
        rw [hb, cond_true] at h
        have := beqT hb; subst this
        obtain ⟨g1, k1⟩ := uniV_ok v w M M' h
        refine ⟨g1, fun A B V hF => ?_⟩
        simp only [RV, k1 A B _ hF]
      | false => rw [hb] at h; cases h
    · cases h
  | .nilif, b, M, M', h => by
    unfold uniV at h; split at h
    · cases h; exact ⟨MGo.refl _, fun A B V _ => by simp only [RV]⟩
    · cases h
  | .agg x, b, M, M', h => by
    unfold uniV at h; split at h
    · rename_i y
      obtain ⟨g1, k1⟩ := uniVs_ok x y M M' h
      refine ⟨g1, fun A B V hF => ?_⟩
      simp only [RV, k1 A B _ hF]
    · cases h
  | .tup x, b, M, M', h => by
    unfold uniV at h; split at h
    · rename_i y
      obtain ⟨g1, k1⟩ := uniVs_ok x y M M' h
      refine ⟨g1, fun A B V hF => ?_⟩
      simp only [RV, k1 A B _ hF]
    · cases h
  | .pan _, b, M, M', h => by unfold uniV at h; cases h
theorem uniVs_ok : ∀ (a b : List AV) (M M' : MT), uniVs a b M = some M' → MGo M M' ∧ ∀ A B vs, MFits M' A B → (RVs A b vs ↔ RVs B a vs)
  | [], b, M, M', h => by
    unfold uniVs at h; split at h
    · cases h; exact ⟨MGo.refl _, fun A B V _ => by simp only [RVs]⟩
    · cases h
  | x :: r, b, M, M', h => by
    unfold uniVs at h; split at h
    · rename_i y s
      split at h
      · rename_i M1 h1
        obtain ⟨g1, k1⟩ := uniV_ok x y M M1 h1
        obtain ⟨g2, k2⟩ := uniVs_ok r s M1 M' h
        refine ⟨g1.trans g2, fun A B V hF => ?_⟩
        simp only [RVs, k1 A B _ (hF.back g2), k2 A B _ hF]
      · cases h
    · cases h
end
def uniO (a b : AO) (M : MT) : Option MT := match a with
  | .cells x E => (match b with
    | .cells y F => bif Nat.beq E F then uniVs x y M else none
    | _ => none)
  | .map x c => (match b with
    | .map y d => (match x, y with
      | [], [] => bif Nat.beq c d then some M else none
      | _, _ => none)
    | _ => none)
  | _ => none
/-- The objects of a template, by their places in the list. -/
def uniT : List AO → Nat → AS → MT → Option MT
  | [], _, _, M => some M
  | a :: r, n, S, M => match lkN M.nm n with
    | some m => (match S.get m with
      | some b => (match uniO a b M with
        | some M' => uniT r (n + 1) S M'
        | none => none)
      | none => none)
    | none => none
theorem uniVs_len : ∀ (a b : List AV) (M M' : MT), uniVs a b M = some M' → a.length = b.length
  | [], b, M, M', h => by
    unfold uniVs at h; split at h
    · rfl
    · cases h
  | x :: r, b, M, M', h => by
    unfold uniVs at h; split at h
    · split at h
      · simp only [List.length_cons, uniVs_len _ _ _ _ h]
      · cases h
    · cases h
theorem uniO_ok {a b : AO} {M M' : MT} (h : uniO a b M = some M') : MGo M M' ∧ b ≠ .dead ∧ ∀ A B w n m, (n, m) ∈ M'.nm → MFits M' A B → (RO A w m b ↔ RO B w n a) := by
  cases a with
  | cells x E =>
    cases b with
    | cells y F =>
      simp only [uniO] at h
      cases hb : Nat.beq E F with
      | false => rw [hb] at h; cases h
      | true =>
        rw [hb, cond_true] at h
        have := beqT hb; subst this
        obtain ⟨g1, k1⟩ := uniVs_ok _ _ _ _ h
        refine ⟨g1, by simp, fun A B w n m hm hF => ?_⟩
        have hl := uniVs_len _ _ _ _ h
        simp only [RO, hF.1 _ hm, hl, k1 A B _ hF]
    | map y d => cases h
    | iter _ _ _ _ => cases h
    | dead => cases h
  | map x c =>
    cases b with
    | map y d =>
      simp only [uniO] at h
      split at h
      · cases hb : Nat.beq c d with
        | false => rw [hb] at h; cases h
        | true =>
          rw [hb] at h
          cases h
          have := beqT hb; subst this
          refine ⟨MGo.refl _, by simp, fun A B w n m hm hF => ?_⟩
          simp only [RO, hF.1 _ hm, RM]
      · cases h
    | cells y F => cases h
    | iter _ _ _ _ => cases h
    | dead => cases h
  | iter _ _ _ _ => cases h
  | dead => cases h
theorem uniT_nd : ∀ (T : List AO) (n : Nat) (S : AS) (M M' : MT), uniT T n S M = some M' → ∀ (i : Nat) (a : AO), T[i]? = some a → a ≠ .dead
  | [], n, S, M, M', h, i, a, hi => by cases hi
  | a :: r, n, S, M, M', h, i, a', hi => by
    unfold uniT at h
    split at h
    · split at h
      · split at h
        · rename_i M1 h1
          cases i with
          | zero =>
            simp only [List.getElem?_cons_zero, Option.some.injEq] at hi
            subst hi
            rintro rfl
            cases h1
          | succ i =>
            rw [List.getElem?_cons_succ] at hi
            exact uniT_nd r (n + 1) S M1 M' h i a' hi
        · cases h
      · cases h
    · cases h
theorem uniT_ok : ∀ (T : List AO) (n : Nat) (S : AS) (M M' : MT), uniT T n S M = some M' → MGo M M' ∧ ∀ i a, T[i]? = some a → ∃ m b, (n + i, m) ∈ M'.nm ∧ S.get m = some b ∧ b ≠ .dead ∧ ∀ A B w, MFits M' A B → (RO A w m b ↔ RO B w (n + i) a)
  | [], n, S, M, M', h => by cases h; exact ⟨MGo.refl _, fun i a hi => by cases hi⟩
  | a :: r, n, S, M, M', h => by
    unfold uniT at h
    split at h
    · rename_i m hm
      split at h
      · rename_i b hb
        split at h
        · rename_i M1 h1
          obtain ⟨g1, k0, k1⟩ := uniO_ok h1
          obtain ⟨g2, k2⟩ := uniT_ok r (n + 1) S M1 M' h
          refine ⟨g1.trans g2, fun i a' hi => ?_⟩
          cases i with
          | zero =>
            simp only [List.getElem?_cons_zero, Option.some.injEq] at hi
            subst hi
            have hmem := lkN_mem hm
            exact ⟨m, b, (g1.trans g2).n _ hmem, hb, k0, fun A B w hF => k1 A B w n m (g1.n _ hmem) (hF.back g2)⟩
          | succ i =>
            rw [List.getElem?_cons_succ] at hi
            obtain ⟨m', b', h3, h4⟩ := k2 i a' hi
            exact ⟨m', b', by rw [show n + (i + 1) = n + 1 + i by omega]; exact h3, by rw [show n + (i + 1) = n + 1 + i by omega]; exact h4⟩
        · cases h
      · cases h
    · cases h
end Go.V
namespace Go.V
set_option linter.unusedSimpArgs false
set_option linter.unusedVariables false
open Go.RowKit
/-- The first symbol that a template does not use. -/
def symTop : Nat := 50
def AbsN (T : List AO) (p : Nat) (F : Nat → Prop) (w : World) (nm : Nat → Option (Nat × Nat × Nat)) (σ : Nat → Int) : Prop :=
  (∀ i o, T[i]? = some o → ∀ σ' : Nat → Int, (∀ j, j < symTop → σ' j = σ j) → RO ⟨nm, σ'⟩ w i o) ∧
  (∀ i, T.length ≤ i → nm i = none) ∧
  (∀ i j b p z q y, i ≠ j → nm i = some (b, p, z) → nm j = some (b, q, y) → False) ∧
  (∀ b, F b ↔ ∃ i p z, nm i = some (b, p, z)) ∧
  (∀ i b p z, nm i = some (b, p, z) → b < w.heap.size ∧ p = 0) ∧
  ∃ z, nm 0 = some (p, 0, z)
/-- In w there is at p what the template tells; all its blocks are F. -/
def AbsT (T : List AO) (p : Nat) (F : Nat → Prop) (w : World) : Prop := ∃ nm σ, AbsN T p F w nm σ
theorem AbsT.lt {T : List AO} {p : Nat} {F : Nat → Prop} {w : World} (h : AbsT T p F w) : ∀ b, F b → b < w.heap.size := by
  obtain ⟨nm, σ, h1, h2, h3, h4, h5, h6⟩ := h
  intro b hb
  obtain ⟨i, q, z, hi⟩ := (h4 b).1 hb
  exact (h5 i b q z hi).1
theorem AbsT.st {T : List AO} {p : Nat} {F : Nat → Prop} : Ch.St F (AbsT T p F) := by
  intro V w w' h e hd
  obtain ⟨nm, σ, h1, h2, h3, h4, h5, h6⟩ := h
  refine ⟨nm, σ, fun i o hi σ' hs => (h1 i o hi σ' hs).up (NM.le.refl _) ?_, h2, h3, h4, fun i b q z hi => ⟨Nat.lt_of_lt_of_le (h5 i b q z hi).1 e.size, (h5 i b q z hi).2⟩, h6⟩
  intro b q z hb
  exact e.block b (h5 i b q z hb).1 (hd b ((h4 b).2 ⟨i, q, z, hb⟩))
/-! ### Into evaluation -/
def enumL {α : Type} : Nat → List α → List (Nat × α)
  | _, [] => []
  | n, a :: r => (n, a) :: enumL (n + 1) r
theorem enumL_mem {α : Type} : ∀ {l : List α} {n m : Nat} {a : α}, (m, a) ∈ enumL n l → n ≤ m ∧ l[m - n]? = some a
  | [], n, m, a, h => by cases h
  | b :: r, n, m, a, h => by
    rcases List.mem_cons.1 h with h | h
    · cases h; simp
    · obtain ⟨h1, h2⟩ := enumL_mem h
      refine ⟨by omega, ?_⟩
      rw [show m - n = (m - (n + 1)) + 1 by omega, List.getElem?_cons_succ]; exact h2
theorem enumL_get {α : Type} : ∀ {l : List α} {n i : Nat} {a : α}, l[i]? = some a → (n + i, a) ∈ enumL n l
  | [], n, i, a, h => by cases h
  | b :: r, n, 0, a, h => by
    simp only [List.getElem?_cons_zero, Option.some.injEq] at h
    subst h; exact List.mem_cons_self ..
  | b :: r, n, i + 1, a, h => by
    rw [List.getElem?_cons_succ] at h
    have := enumL_get (n := n + 1) h
    rw [show n + 1 + i = n + (i + 1) by omega] at this
    exact List.mem_cons_of_mem _ this
theorem mkT_some : ∀ {l : List (Nat × AO)} {n : Nat} {o : AO}, (n, o) ∈ l → ∃ o', (mkT l).get n = some o'
  | [], n, o, h => by cases h
  | p :: r, n, o, h => by
    unfold mkT
    rw [Tr.get_set p.2 (p.1 + 1) (mkT r) p.1 n (Nat.lt_succ_self _)]
    by_cases e : n = p.1
    · rw [if_pos e]; exact ⟨_, rfl⟩
    · rw [if_neg e]
      rcases List.mem_cons.1 h with h | h
      · exact absurd (by rw [← h]) e
      · exact mkT_some h
def stT (T : List AO) (ks : List (BT × Bool)) : AS := ⟨mkT (enumL 0 T), T.length, 0, ks⟩
theorem stT_get {T : List AO} {ks : List (BT × Bool)} {n : Nat} {o : AO} (h : (stT T ks).get n = some o) : T[n]? = some o := by
  have := (enumL_mem (mkT_get h)).2
  simpa using this
theorem stT_none {T : List AO} {ks : List (BT × Bool)} {n : Nat} (h : (stT T ks).get n = none) : T.length ≤ n := by
  by_cases hl : n < T.length
  · obtain ⟨o', h1⟩ := mkT_some (enumL_get (n := 0) (List.getElem?_eq_getElem hl))
    rw [Nat.zero_add] at h1
    unfold stT AS.get at h
    rw [h1] at h; cases h
  · omega
/-- Things with one more, and what is known of the symbols. -/
theorem AbsN.rw {T : List AO} {p : Nat} {F : Nat → Prop} {w : World} {nm : Nat → Option (Nat × Nat × Nat)} {σ σ' : Nat → Int} (h : AbsN T p F w nm σ) (hs : ∀ j, j < symTop → σ' j = σ j) (ks : List (BT × Bool)) (hk : ∀ q ∈ ks, q.1.ev σ' = q.2) : RW F w ⟨nm, σ'⟩ (stT T ks) w := by
  obtain ⟨h1, h2, h3, h4, h5, h6⟩ := h
  refine ⟨Ext.refl _ _, fun n hn => h2 n (stT_none hn.2), fun n b q z hn => ⟨.inl ((h4 b).2 ⟨n, q, z, hn⟩), (h5 n b q z hn).1⟩, fun n o hn => h1 n o (stT_get hn) σ' hs, ?_, hk, fun n b q z hn => (h5 n b q z hn).2⟩
  intro n m b q z r y o o' hnm hn hm _ _
  exact (h3 n m b q z r y hnm hn hm).elim
/-- An array beside it. -/
theorem AbsN.snoc {T : List AO} {p : Nat} {F : Nat → Prop} {w : World} {nm : Nat → Option (Nat × Nat × Nat)} {σ : Nat → Int} (h : AbsN T p F w nm σ) (h0 : T ≠ []) {b z E : Nat} {c : Array Value} {cs : List AV} (hb : w.heap[b]? = some (.cells c E (0, 0))) (hz : c.size = z) (hl : cs.length ≤ z) (hc : ∀ A : NM, RVs A cs (c.toList.take cs.length)) (hF : ¬ F b) :
    AbsN (T ++ [.cells cs E]) p (fun k => F k ∨ k = b) w (fun n => if n = T.length then some (b, 0, z) else nm n) σ := by
  obtain ⟨h1, h2, h3, h4, h5, z0, h6⟩ := h
  have hlt : b < w.heap.size := (Array.getElem?_eq_some_iff.1 hb).1
  have hold : ∀ σ' : Nat → Int, NM.le ⟨nm, σ'⟩ ⟨fun n => if n = T.length then some (b, 0, z) else nm n, σ'⟩ := fun σ' => ⟨fun n x hn => by
    have : n ≠ T.length := by
      rintro rfl
      rw [show (⟨nm, σ'⟩ : NM) T.length = nm T.length from rfl, h2 _ (Nat.le_refl _)] at hn; cases hn
    show (if n = T.length then some (b, 0, z) else nm n) = some x
    rw [if_neg this]; exact hn, rfl⟩
  have hpos : 0 < T.length := List.length_pos_iff.2 h0
  refine ⟨?_, ?_, ?_, ?_, ?_, z0, ?_⟩
  · intro i o hi σ' hs
    by_cases e : i = T.length
    · subst e
      rw [List.getElem?_append_right (Nat.le_refl _), Nat.sub_self] at hi
      cases hi
      exact ⟨b, 0, z, c, by show (if T.length = T.length then some (b, 0, z) else nm T.length) = _; rw [if_pos rfl], hb, by omega, hl, by simpa using hc _⟩
    · have hlt' : i < T.length := by
        have := (List.getElem?_eq_some_iff.1 hi).1
        rw [List.length_append, List.length_singleton] at this
        omega
      rw [List.getElem?_append_left hlt'] at hi
      exact (h1 i o hi σ' hs).up (hold σ') (fun _ _ _ _ => rfl)
  · intro i hi
    rw [List.length_append, List.length_singleton] at hi
    show (if i = T.length then some (b, 0, z) else nm i) = none
    rw [if_neg (by omega)]
    exact h2 i (by omega)
  · intro i j k q y r x hij hi hj
    simp only at hi hj
    split at hi
    · cases hi
      rw [if_neg (by omega)] at hj
      exact hF ((h4 _).2 ⟨j, r, x, hj⟩)
    · split at hj
      · cases hj
        exact hF ((h4 _).2 ⟨i, q, y, hi⟩)
      · exact h3 i j k q y r x hij hi hj
  · intro k
    constructor
    · rintro (hk | rfl)
      · obtain ⟨i, q, y, hi⟩ := (h4 k).1 hk
        refine ⟨i, q, y, ?_⟩
        have : i ≠ T.length := by rintro rfl; rw [h2 _ (Nat.le_refl _)] at hi; cases hi
        simp only [if_neg this]; exact hi
      · exact ⟨T.length, 0, z, by simp⟩
    · rintro ⟨i, q, y, hi⟩
      simp only at hi
      split at hi
      · cases hi; exact .inr rfl
      · exact .inl ((h4 k).2 ⟨i, q, y, hi⟩)
  · intro i k q y hi
    simp only at hi
    split at hi
    · cases hi; exact ⟨hlt, rfl⟩
    · exact h5 i k q y hi
  · simp only
    rw [if_neg (by omega)]; exact h6
/-! ### Out of it -/
def symsLt : List (Nat × IT) → Bool
  | [] => true
  | p :: r => Nat.blt p.1 symTop && symsLt r
theorem symsLt_ok : ∀ {l : List (Nat × IT)}, symsLt l = true → ∀ p ∈ l, p.1 < symTop
  | [], _, p, hp => by cases hp
  | q :: r, h, p, hp => by
    unfold symsLt at h
    rw [Bool.and_eq_true] at h
    rcases List.mem_cons.1 hp with rfl | hp
    · exact Nat.le_of_ble_eq_true h.1
    · exact symsLt_ok h.2 p hp
def namesLt (k : Nat) : List (Nat × Nat) → Bool
  | [] => true
  | p :: r => Nat.blt p.1 k && namesLt k r
theorem namesLt_ok {k : Nat} : ∀ {l : List (Nat × Nat)}, namesLt k l = true → ∀ p ∈ l, p.1 < k
  | [], _, p, hp => by cases hp
  | q :: r, h, p, hp => by
    unfold namesLt at h
    rw [Bool.and_eq_true] at h
    rcases List.mem_cons.1 hp with rfl | hp
    · exact Nat.le_of_ble_eq_true h.1
    · exact namesLt_ok h.2 p hp
/-- The heap holds, from the name m on, what the template tells. -/
def matchT (T : List AO) (m : Nat) (S : AS) : Option MT := match uniT T 0 S ⟨[(0, m)], []⟩ with
  | some M => bif symsLt M.sy && namesLt T.length M.nm then some M else none
  | none => none
def nmOf (B : NM) (M : MT) (n : Nat) : Option (Nat × Nat × Nat) := match lkN M.nm n with
  | some m => B m
  | none => none
def syOf (B : NM) (M : MT) (i : Nat) : Int := match lkS M.sy i with
  | some t => t.ev B.sy
  | none => 0
theorem nmOf_some {B : NM} {M : MT} {n m : Nat} (h : lkN M.nm n = some m) : nmOf B M n = B m := by unfold nmOf; rw [h]
theorem nmOf_none {B : NM} {M : MT} {n : Nat} (h : lkN M.nm n = none) : nmOf B M n = none := by unfold nmOf; rw [h]
theorem nmOf_inv {B : NM} {M : MT} {n : Nat} {x : Nat × Nat × Nat} (h : nmOf B M n = some x) : ∃ m, lkN M.nm n = some m ∧ B m = some x := by
  unfold nmOf at h
  split at h
  · rename_i m hm; exact ⟨m, hm, h⟩
  · cases h
theorem syOf_some {B : NM} {M : MT} {i : Nat} {t : IT} (h : lkS M.sy i = some t) : syOf B M i = t.ev B.sy := by unfold syOf; rw [h]
/-- The blocks of some names. -/
def blksOf (B : NM) (l : List (Nat × Nat)) : Nat → Prop := fun b => ∃ q ∈ l, ∃ x z, B q.2 = some (b, x, z)
theorem matchT_ok {U : Nat → Prop} {w0 w : World} {B : NM} {S : AS} {T : List AO} {m p : Nat} {M : MT} (H : RW U w0 B S w) (hm : ∃ z, B m = some (p, 0, z)) (h : matchT T m S = some M) :
    AbsT T p (blksOf B M.nm) w ∧ (∀ q ∈ M.nm, ∃ o, S.get q.2 = some o ∧ o ≠ .dead) := by
  unfold matchT at h
  split at h
  · rename_i M' hu
    cases hb : (symsLt M'.sy && namesLt T.length M'.nm) with
    | false => rw [hb] at h; cases h
    | true =>
      rw [hb] at h
      cases h
      rw [Bool.and_eq_true] at hb
      have hsy := symsLt_ok hb.1
      have hnm := namesLt_ok hb.2
      obtain ⟨g, k⟩ := uniT_ok _ _ _ _ _ hu
      have W : M.WF := g.w ⟨fun p hp => by
        rw [List.mem_singleton] at hp; subst hp; simp [lkN], fun p hp q hq _ => by
        rw [List.mem_singleton] at hp hq; rw [hp, hq], fun p hp => by cases hp⟩
      have hobj : ∀ q ∈ M.nm, ∃ o, S.get q.2 = some o ∧ o ≠ .dead := by
        intro q hq
        have hl := hnm q hq
        obtain ⟨m', b, h1, h2, h3, _⟩ := k q.1 _ (List.getElem?_eq_getElem hl)
        rw [Nat.zero_add] at h1
        have e1 := W.n _ h1
        have e2 := W.n _ hq
        dsimp only at e1
        rw [e1] at e2
        cases e2
        exact ⟨b, h2, h3⟩
      refine ⟨⟨nmOf B M, syOf B M, ?_, ?_, ?_, ?_, ?_, ?_⟩, hobj⟩
      · intro i o hi σ' hs
        obtain ⟨m', b, h1, h2, h3, h4⟩ := k i o hi
        rw [Nat.zero_add] at h1 h4
        exact (h4 B ⟨nmOf B M, σ'⟩ w ⟨fun q hq => nmOf_some (W.n q hq), fun q hq => by
          show σ' q.1 = q.2.ev B.sy
          rw [hs q.1 (hsy q hq), syOf_some (W.s q hq)]⟩).1 (H.obj m' b h2)
      · intro i hi
        cases hk : lkN M.nm i with
        | none => exact nmOf_none hk
        | some m' =>
          have := hnm _ (lkN_mem hk)
          simp only at this
          omega
      · intro i j b q z r y hij hi hj
        obtain ⟨mi, hi', hi⟩ := nmOf_inv hi
        obtain ⟨mj, hj', hj⟩ := nmOf_inv hj
        have hmi := lkN_mem hi'
        have hmj := lkN_mem hj'
        obtain ⟨oi, h1, h2⟩ := hobj _ hmi
        obtain ⟨oj, h3, h4⟩ := hobj _ hmj
        have hne : mi ≠ mj := fun e => hij (W.i _ hmi _ hmj e)
        rcases H.apart mi mj b q z r y oi oj hne hi hj h1 h3 with e | e
        · exact h2 e
        · exact h4 e
      · intro b
        constructor
        · rintro ⟨q, hq, x, z, hB⟩
          exact ⟨q.1, x, z, (nmOf_some (W.n q hq)).trans hB⟩
        · rintro ⟨i, x, z, hi⟩
          obtain ⟨m', hk, hi⟩ := nmOf_inv hi
          exact ⟨_, lkN_mem hk, x, z, hi⟩
      · intro i b q z hi
        obtain ⟨m', hk, hi⟩ := nmOf_inv hi
        exact ⟨(H.above m' b q z hi).2, H.zero m' b q z hi⟩
      · obtain ⟨z, hz⟩ := hm
        have : lkN M.nm 0 = some m := W.n (0, m) (g.n _ (List.mem_singleton.2 rfl))
        exact ⟨z, (nmOf_some this).trans hz⟩
  · cases h
end Go.V
namespace Go.V
set_option linter.unusedSimpArgs false
set_option linter.unusedVariables false
open Go.RowKit
/-- Sends, their bytes read. -/
def SdR (F : Nat → Prop) (w : World) (r : Int × Value) (s : Int × List UInt8) : Prop := r.1 = s.1 ∧ Rs F w r.2 s.2
def sdC (r : Int × Value) : List Value := [i64v r.1, r.2]
def SndsA (F : Nat → Prop) (v : Value) (ss : List (Int × List UInt8)) (w : World) : Prop :=
  ∃ raws : List (Int × Value), Sl F w v raws.length (raws.flatMap sdC) ∧ All2 (SdR F w) raws ss
theorem SdR.up {F V : Nat → Prop} {w w' : World} {r : Int × Value} {s : Int × List UInt8} (h : SdR F w r s) (e : Ext V w w') (hd : ∀ b, F b → ¬ V b) : SdR F w' r s := ⟨h.1, h.2.up e hd⟩
theorem SndsA.st {F : Nat → Prop} {v : Value} {ss : List (Int × List UInt8)} : Ch.St F (SndsA F v ss) := fun V w w' ⟨raws, h1, h2⟩ e hd => ⟨raws, h1.up e hd, All2.mono (fun _ _ q => q.up e hd) h2⟩
def u8A (a : AV) : Option UInt8 := match a with
  | .int .u8 (.ofNat n) => bif Nat.blt n 256 then some (UInt8.ofNat n) else none
  | _ => none
theorem u8A_ok {A : NM} {a : AV} {V : Value} {y : UInt8} (h : u8A a = some y) (H : RV A a V) : V = u8v y := by
  unfold u8A at h
  split at h
  · rename_i n
    cases hb : Nat.blt n 256 with
    | false => rw [hb] at h; cases h
    | true =>
      rw [hb] at h
      cases h
      have hn : n < 256 := Nat.le_of_ble_eq_true hb
      simp only [RV] at H
      rw [H]
      unfold u8v
      have : (UInt8.ofNat n).toNat = n := by simp [UInt8.toNat_ofNat']; omega
      rw [this]; rfl
  · cases h
def u8L : List AV → Option (List UInt8)
  | [] => some []
  | a :: r => match u8A a, u8L r with
    | some y, some l => some (y :: l)
    | _, _ => none
theorem u8L_ok {A : NM} : ∀ {l : List AV} {vs : List Value} {ys : List UInt8}, u8L l = some ys → RVs A l vs → vs = ys.map u8v
  | [], vs, ys, h, H => by cases h; simp only [RVs] at H; rw [H]; rfl
  | a :: r, vs, ys, h, H => by
    unfold u8L at h
    simp only [RVs] at H
    obtain ⟨v, t, rfl, h1, h2⟩ := H
    split at h
    · rename_i y l h3 h4
      cases h
      rw [u8A_ok h3 h1, u8L_ok h4 h2]; rfl
    · cases h
/-- A slice of so many cells each. -/
def slOf (S : AS) (k : Nat) (a : AV) : Option (Nat × Nat × List AV) := match a with
  | .sl n o len cap s => match S.get n with
    | some (.cells cs _) => bif Nat.beq s k && Nat.ble (o + len * k) cs.length then some (n, len, (cs.drop o).take (len * k)) else none
    | _ => none
  | _ => none
/-- The blocks of some names. -/
def blksN (B : NM) (l : List Nat) : Nat → Prop := fun b => ∃ n ∈ l, ∃ x z, B n = some (b, x, z)
theorem slOf_ok {U : Nat → Prop} {w0 w : World} {B : NM} {S : AS} {a : AV} {V : Value} {k n len : Nat} {l : List AV} (H : RW U w0 B S w) (hv : RV B a V) (h : slOf S k a = some (n, len, l)) :
    ∃ vs, RVs B l vs ∧ l.length = len * k ∧ Sl (fun b => ∃ x z, B n = some (b, x, z)) w V len vs ∧ ∃ o, S.get n = some o ∧ o ≠ .dead := by
  unfold slOf at h
  split at h
  · rename_i n' o len' cap s
    split at h
    · rename_i cs E hS
      cases hb : (Nat.beq s k && Nat.ble (o + len' * k) cs.length) with
      | false => rw [hb] at h; cases h
      | true =>
        rw [hb] at h
        cases h
        rw [Bool.and_eq_true] at hb
        have := beqT hb.1; subst this
        have hle := Nat.le_of_ble_eq_true hb.2
        obtain ⟨b, p, z, vs, h1, h2, h3, h4⟩ := H.cells hS o (len * s) hle
        simp only [RV] at hv
        obtain ⟨b', p', z', c, h5, h6, h7, h8, h9⟩ := hv
        rw [h1] at h5; cases h5
        refine ⟨vs, h4, ?_, ?_, _, hS, by simp⟩
        · rw [List.length_take, List.length_drop]; omega
        · exact ⟨_, _, h6, h7, h8, .inr ⟨b, p + o, rfl, ⟨p, z, h1⟩, h3⟩⟩
    · cases h
  · cases h
def bytesA (S : AS) (a : AV) : Option (List Nat × List UInt8) := match a with
  | .nils => some ([], [])
  | a => match slOf S 1 a with
    | some (n, _, l) => (match u8L l with
      | some ys => some ([n], ys)
      | none => none)
    | none => none
theorem bytesA_ok {U : Nat → Prop} {w0 w : World} {B : NM} {S : AS} {a : AV} {V : Value} {ns : List Nat} {ys : List UInt8} (H : RW U w0 B S w) (hv : RV B a V) (h : bytesA S a = some (ns, ys)) :
    Rs (blksN B ns) w V ys ∧ ∀ n ∈ ns, ∃ o, S.get n = some o ∧ o ≠ .dead := by
  unfold bytesA at h
  split at h
  · cases h
    simp only [RV] at hv
    rw [hv]
    exact ⟨Rs.nil, fun n hn => by cases hn⟩
  · split at h
    · rename_i n len l hs
      split at h
      · rename_i ys' hu
        cases h
        obtain ⟨vs, h1, h2, h3, h4⟩ := slOf_ok H hv hs
        have h5 := u8L_ok hu h1
        have h6 : len = ys.length := by
          have := h1.length
          rw [h5, List.length_map] at this; omega
        refine ⟨⟨?_, onesU _⟩, fun m hm => by rw [List.mem_singleton] at hm; subst hm; exact h4⟩
        rw [flat_u8', ← h5, ← h6]
        exact h3.mono fun b _ ⟨x, z, hb⟩ => ⟨n, List.mem_singleton.2 rfl, x, z, hb⟩
      · cases h
    · cases h
def sndsL (S : AS) : List AV → Option (List Nat × List (IT × List UInt8))
  | [] => some ([], [])
  | [_] => none
  | a :: b :: r => match toIT a, bytesA S b, sndsL S r with
    | some (.i64, t), some (ns, l), some (ms, ss) => some (ns ++ ms, (t, l) :: ss)
    | _, _, _ => none
def sndE (B : NM) (s : IT × List UInt8) : Int × List UInt8 := (s.1.ev B.sy, s.2)
theorem blksN_app {B : NM} {ns ms : List Nat} (b : Nat) : blksN B ns b → blksN B (ns ++ ms) b := fun ⟨n, hn, h⟩ => ⟨n, List.mem_append_left _ hn, h⟩
theorem blksN_app' {B : NM} {ns ms : List Nat} (b : Nat) : blksN B ms b → blksN B (ns ++ ms) b := fun ⟨n, hn, h⟩ => ⟨n, List.mem_append_right _ hn, h⟩
theorem sndsL_ok {U : Nat → Prop} {w0 w : World} {B : NM} {S : AS} (H : RW U w0 B S w) : ∀ {l : List AV} {vs : List Value} {ns : List Nat} {ss : List (IT × List UInt8)}, sndsL S l = some (ns, ss) → RVs B l vs →
    ∃ raws : List (Int × Value), vs = raws.flatMap sdC ∧ All2 (SdR (blksN B ns) w) raws (ss.map (sndE B)) ∧ ∀ n ∈ ns, ∃ o, S.get n = some o ∧ o ≠ .dead
  | [], vs, ns, ss, h, K => by
    cases h
    simp only [RVs] at K
    exact ⟨[], K, trivial, fun n hn => by cases hn⟩
  | [_], vs, ns, ss, h, K => by cases h
  | a :: b :: r, vs, ns, ss, h, K => by
    unfold sndsL at h
    simp only [RVs] at K
    obtain ⟨v1, t1, rfl, k1, v2, t2, rfl, k2, k3⟩ := K
    split at h
    · rename_i t ns1 l ms ss1 h1 h2 h3
      cases h
      obtain ⟨raws, h4, h5, h6⟩ := sndsL_ok H h3 k3
      obtain ⟨h7, h8⟩ := bytesA_ok H k2 h2
      refine ⟨(t.ev B.sy, v2) :: raws, ?_, ⟨⟨rfl, h7.mono fun b _ hb => blksN_app b hb⟩, All2.mono (fun _ _ q => ⟨q.1, q.2.mono fun b _ hb => blksN_app' b hb⟩) h5⟩, ?_⟩
      · rw [List.flatMap_cons, ← h4, toIT_ok h1 k1]; rfl
      · intro n hn
        rcases List.mem_append.1 hn with hn | hn
        · exact h8 n hn
        · exact h6 n hn
    · cases h
def sndsA (S : AS) (a : AV) : Option (List Nat × List (IT × List UInt8)) := match a with
  | .nils => some ([], [])
  | a => match slOf S 2 a with
    | some (n, _, l) => (match sndsL S l with
      | some (ns, ss) => some (n :: ns, ss)
      | none => none)
    | none => none
theorem sndsA_ok {U : Nat → Prop} {w0 w : World} {B : NM} {S : AS} {a : AV} {V : Value} {ns : List Nat} {ss : List (IT × List UInt8)} (H : RW U w0 B S w) (hv : RV B a V) (h : sndsA S a = some (ns, ss)) :
    SndsA (blksN B ns) V (ss.map (sndE B)) w ∧ ∀ n ∈ ns, ∃ o, S.get n = some o ∧ o ≠ .dead := by
  unfold sndsA at h
  split at h
  · cases h
    simp only [RV] at hv
    rw [hv]
    exact ⟨⟨[], Sl.nil, trivial⟩, fun n hn => by cases hn⟩
  · split at h
    · rename_i n len l hs
      split at h
      · rename_i ns' ss' hu
        cases h
        obtain ⟨vs, h1, h2, h3, h4⟩ := slOf_ok H hv hs
        obtain ⟨raws, h5, h6, h7⟩ := sndsL_ok H hu h1
        have hl : len = raws.length := by
          have h8 := h1.length
          have h9 : (raws.flatMap sdC).length = raws.length * 2 := by
            clear h5 h6 h7
            induction raws with
            | nil => rfl
            | cons r rs ih => rw [List.flatMap_cons, List.length_append, ih, List.length_cons]; simp only [sdC, List.length_cons, List.length_nil]; omega
          rw [h5, h9] at h8
          omega
        refine ⟨⟨raws, ?_, All2.mono (fun _ _ q => ⟨q.1, q.2.mono fun b _ ⟨m, hm, hb⟩ => ⟨m, List.mem_cons_of_mem _ hm, hb⟩⟩) h6⟩, ?_⟩
        · rw [← h5, ← hl]
          exact h3.mono fun b _ ⟨x, z, hb⟩ => ⟨n, List.mem_cons_self .., x, z, hb⟩
        · intro m hm
          rcases List.mem_cons.1 hm with rfl | hm
          · exact h4
          · exact h7 m hm
      · cases h
    · cases h
/-! ### Calls -/
def noneIn (M : MT) : List Nat → Bool
  | [] => true
  | n :: r => (!hasN M.nm n) && noneIn M r
theorem noneIn_ok {M : MT} : ∀ {l : List Nat}, noneIn M l = true → ∀ n ∈ l, ∀ p ∈ M.nm, p.2 ≠ n
  | [], _, n, hn => by cases hn
  | m :: r, h, n, hn => by
    unfold noneIn at h
    rw [Bool.and_eq_true, Bool.not_eq_true'] at h
    rcases List.mem_cons.1 hn with rfl | hn
    · exact hasN_no h.1
    · exact noneIn_ok h.2 n hn
/-- One of the templates fits what is left, beside the names of what is sent. -/
def anyT (Ts : List (List AO)) (ns : List Nat) (S : AS) : Bool := match Ts with
  | [] => false
  | T :: r => (match matchT T 0 S with
    | some M => noneIn M ns
    | none => false) || anyT r ns S
theorem anyT_ok {ns : List Nat} {S : AS} : ∀ {Ts : List (List AO)}, anyT Ts ns S = true → ∃ T ∈ Ts, ∃ M, matchT T 0 S = some M ∧ noneIn M ns = true
  | [], h => by cases h
  | T :: r, h => by
    unfold anyT at h
    rw [Bool.or_eq_true] at h
    rcases h with h | h
    · split at h
      · rename_i M hM; exact ⟨T, List.mem_cons_self .., M, hM, h⟩
      · cases h
    · obtain ⟨T', h1, h2⟩ := anyT_ok h
      exact ⟨T', List.mem_cons_of_mem _ h1, h2⟩
def bytesIn (l : List UInt8) : List (List UInt8) → Bool
  | [] => false
  | x :: r => lEq l x || bytesIn l r
theorem bytesIn_ok {l : List UInt8} : ∀ {xs : List (List UInt8)}, bytesIn l xs = true → l ∈ xs
  | [], h => by cases h
  | x :: r, h => by
    unfold bytesIn at h
    rw [Bool.or_eq_true] at h
    rcases h with h | h
    · rw [lEq_ok] at h
      rw [of_decide_eq_true h]; exact List.mem_cons_self ..
    · exact List.mem_cons_of_mem _ (bytesIn_ok h)
def sndsIn (xs : List (List UInt8)) : Nat → List (IT × List UInt8) → Bool
  | _, [] => true
  | 0, _ => false
  | k + 1, s :: r => bytesIn s.2 xs && sndsIn xs k r
theorem sndsIn_ok {xs : List (List UInt8)} : ∀ {k : Nat} {ss : List (IT × List UInt8)}, sndsIn xs k ss = true → ss.length ≤ k ∧ ∀ s ∈ ss, s.2 ∈ xs
  | k, [], _ => ⟨Nat.zero_le _, fun s hs => by cases hs⟩
  | 0, _ :: _, h => by cases h
  | k + 1, s :: r, h => by
    unfold sndsIn at h
    rw [Bool.and_eq_true] at h
    obtain ⟨h1, h2⟩ := sndsIn_ok h.2
    refine ⟨by simp only [List.length_cons]; omega, fun x hx => ?_⟩
    rcases List.mem_cons.1 hx with rfl | hx
    · exact bytesIn_ok h.1
    · exact h2 x hx
/-- What a call that sends leaves. -/
def outS (Ts : List (List AO)) (xs : List (List UInt8)) (k : Nat) (o : AV × AS) : Bool := isNone (panV o.1) && match sndsA o.2 o.1 with
  | some (ns, ss) => sndsIn xs k ss && anyT Ts ns o.2
  | none => false
def chkS (C : Caller) (f : Nat) (l : List AV) (S : AS) (Ts : List (List AO)) (xs : List (List UInt8)) (k : Nat) : Bool := match C f l S with
  | some outs => outs.all (outS Ts xs k)
  | none => false
/-- A thing that is one of some templates. -/
def OneT (Ts : List (List AO)) (p : Nat) (F : Nat → Prop) (w : World) : Prop := ∃ T ∈ Ts, AbsT T p F w
theorem OneT.st {Ts : List (List AO)} {p : Nat} {F : Nat → Prop} : Ch.St F (OneT Ts p F) := fun V w w' ⟨T, hT, h⟩ e hd => ⟨T, hT, AbsT.st V w w' h e hd⟩
theorem OneT.lt {Ts : List (List AO)} {p : Nat} {F : Nat → Prop} {w : World} (h : OneT Ts p F w) : ∀ b, F b → b < w.heap.size := by
  obtain ⟨T, _, h⟩ := h; exact h.lt
theorem Ends.ret {B : NM} {a : AV} {en : Ending} (h : Ends B a en) (hn : isNone (panV a) = true) : ∃ v, en = .returned v ∧ RV B a v := by
  rcases h with h | ⟨b, v, rfl, _⟩
  · exact h
  · cases hn
theorem matchT_ch {U : Nat → Prop} {w w' : World} {B : NM} {S : AS} {T : List AO} {Ts : List (List AO)} {p : Nat} {M : MT} (H : RW U w B S w') (hm : ∃ z, B 0 = some (p, 0, z)) (h : matchT T 0 S = some M) (hT : T ∈ Ts) :
    Ok (fun b => U b ∨ w.heap.size ≤ b) Non w' (.P (blksOf B M.nm) (OneT Ts p (blksOf B M.nm))) := by
  obtain ⟨h1, h2⟩ := matchT_ok H hm h
  refine ⟨⟨T, hT, h1⟩, OneT.st, h1.lt, ?_, ?_⟩
  · rintro _ b ⟨q, hq, x, z, hb⟩
    exact (H.above _ b x z hb).1
  · rintro b ⟨q, hq, x, z, hb⟩
    exact .inl (H.above _ b x z hb).1
theorem chkS_ok {P : Program} {C : Caller} {f : Nat} {l : List AV} {S : AS} {Ts : List (List AO)} {xs : List (List UInt8)} {k : Nat} (hC : ∀ U w0, CallsOK P U w0 C) (h : chkS C f l S Ts xs k = true) {U : Nat → Prop} {w : World} {A : NM} {ls : List Value} {p : Nat}
    (H : RW U w A S w) (hl : RVs A l ls) (hp : ∃ z, A 0 = some (p, 0, z)) :
    Calls P f ls.toArray w fun en w' => ∃ v ss F' Fz, en = .returned v ∧ (ss.length ≤ k ∧ ∀ s ∈ ss, s.2 ∈ xs) ∧ SH U Non w w' [.P F' (OneT Ts p F'), .P Fz (SndsA Fz v ss)] := by
  unfold chkS at h
  split at h
  · rename_i outs hc
    refine Calls.mono ((hC U w _ _ _ _ hc).2 A ls w hl H) ?_
    rintro en w' ⟨o, ho, B, hB, hen, HW⟩
    have ho := List.all_eq_true.1 h o ho
    unfold outS at ho
    rw [Bool.and_eq_true] at ho
    obtain ⟨v, rfl, hv⟩ := hen.ret ho.1
    have ho := ho.2
    split at ho
    · rename_i ns ss hs
      rw [Bool.and_eq_true] at ho
      obtain ⟨h1, h2⟩ := sndsIn_ok ho.1
      obtain ⟨T, hT, M, hM, hno⟩ := anyT_ok ho.2
      obtain ⟨h3, h4⟩ := sndsA_ok HW hv hs
      have hp' : ∃ z, B 0 = some (p, 0, z) := by
        obtain ⟨z, hz⟩ := hp
        exact ⟨z, hB.1 _ _ hz⟩
      have h5 := matchT_ch HW hp' hM hT
      refine ⟨v, ss.map (sndE B), blksOf B M.nm, blksN B ns, rfl, ⟨by rw [List.length_map]; exact h1, fun s hs => ?_⟩, HW.ext, ?_⟩
      · obtain ⟨q, hq, rfl⟩ := List.mem_map.1 hs
        exact h2 q hq
      · refine Val.cons h5 (Val.one ⟨h3, SndsA.st, ?_, ?_, ?_⟩) ?_
        · rintro b ⟨n, hn, x, z, hb⟩
          exact (HW.above n b x z hb).2
        · rintro _ b ⟨n, hn, x, z, hb⟩
          exact (HW.above n b x z hb).1
        · rintro b ⟨n, hn, x, z, hb⟩
          exact .inl (HW.above n b x z hb).1
        · intro d hd _ b hb1 hb2
          rw [List.mem_singleton] at hd
          subst hd
          obtain ⟨q, hq, x, z, hq1⟩ := hb1
          obtain ⟨n, hn, y, z', hn1⟩ := hb2
          obtain ⟨oq, h6, h7⟩ := (matchT_ok HW hp' hM).2 q hq
          obtain ⟨on, h8, h9⟩ := h4 n hn
          rcases HW.apart q.2 n b x z y z' oq on (noneIn_ok hno n hn q hq) hq1 hn1 h6 h8 with e | e
          · exact h7 e
          · exact h9 e
    · cases ho
  · cases h
/-- A call that answers what is known. -/
def outV (T : List AO) (r : AV) (o : AV × AS) : Bool := avEq o.1 r && match matchT T 0 o.2 with
  | some _ => true
  | none => false
def chkV (C : Caller) (f : Nat) (l : List AV) (S : AS) (T : List AO) (r : AV) : Bool := isNone (panV r) && match C f l S with
  | some outs => outs.all (outV T r)
  | none => false
theorem chkV_ok {P : Program} {C : Caller} {f : Nat} {l : List AV} {S : AS} {T : List AO} {Ts : List (List AO)} {r : AV} (hC : ∀ U w0, CallsOK P U w0 C) (h : chkV C f l S T r = true) (hT : T ∈ Ts) {U : Nat → Prop} {w : World} {A : NM} {ls : List Value} {p : Nat}
    (H : RW U w A S w) (hl : RVs A l ls) (hp : ∃ z, A 0 = some (p, 0, z)) :
    Calls P f ls.toArray w fun en w' => ∃ v F' B, en = .returned v ∧ RV B r v ∧ SH U Non w w' [.P F' (OneT Ts p F')] := by
  unfold chkV at h
  rw [Bool.and_eq_true] at h
  obtain ⟨hr, h⟩ := h
  split at h
  · rename_i outs hc
    refine Calls.mono ((hC U w _ _ _ _ hc).2 A ls w hl H) ?_
    rintro en w' ⟨o, ho, B, hB, hen, HW⟩
    have ho := List.all_eq_true.1 h o ho
    unfold outV at ho
    rw [Bool.and_eq_true] at ho
    have h1 := avEq_ok _ _ ho.1
    rw [h1] at hen
    obtain ⟨v, rfl, hv⟩ := hen.ret hr
    have ho := ho.2
    split at ho
    · rename_i M hM
      have hp' : ∃ z, B 0 = some (p, 0, z) := by
        obtain ⟨z, hz⟩ := hp
        exact ⟨z, hB.1 _ _ hz⟩
      exact ⟨v, _, B, rfl, hv, HW.ext, Val.one (matchT_ch HW hp' hM hT)⟩
    · cases ho
  · cases h
end Go.V
