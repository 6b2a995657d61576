/-
  Calls that were evaluated before, in a heap of their own: found again in any heap. No statement of the claim stands here: these are rules, whatever the program; Replicas of which nobody has asked anything: the states that they come to, the packets that they send, and what is evaluated of them. No statement of the claim stands here: these are definitions; slices.Insert in the middle, on the abstract heap: how much room there is nobody knows
-/
import Derived.Test.YtgmmbdmdimkfjaaGreatPI12
import Derived.Test.YtgmmbdmdimkfjaaGreatPI05
namespace Go.V
set_option linter.unusedSimpArgs false
set_option linter.unusedVariables false
open Go.RowKit
/-! ### A template's values, with names and symbols filled in -/
def instT (sy : List (Nat × IT)) : IT → Option IT
  | .sym i => lkS sy i
  | .lit n => some (.lit n)
  | .add k a b => match instT sy a, instT sy b with
    | some x, some y => some (.add k x y)
    | _, _ => none
  | .sub k a b => match instT sy a, instT sy b with
    | some x, some y => some (.sub k x y)
    | _, _ => none
  | .mx a b => match instT sy a, instT sy b with
    | some x, some y => some (.mx x y)
    | _, _ => none
  | .mn a b => match instT sy a, instT sy b with
    | some x, some y => some (.mn x y)
    | _, _ => none
  | .wr k a => match instT sy a with
    | some x => some (.wr k x)
    | none => none
theorem instT_ok {sy : List (Nat × IT)} {σ τ : Nat → Int} (h : ∀ i t, lkS sy i = some t → σ i = t.ev τ) : ∀ {a b : IT}, instT sy a = some b → a.ev σ = b.ev τ := by
  intro a
  induction a with
  | sym i => intro b hb; exact h i b hb
  | lit n => intro b hb; cases hb; rfl
  | add k x y ihx ihy =>
    intro b hb
    simp only [instT] at hb
    split at hb
    · rename_i u v h1 h2; cases hb; simp only [IT.ev, ihx h1, ihy h2]
    · cases hb
  | sub k x y ihx ihy =>
    intro b hb
    simp only [instT] at hb
    split at hb
    · rename_i u v h1 h2; cases hb; simp only [IT.ev, ihx h1, ihy h2]
    · cases hb
  | mx x y ihx ihy =>
    intro b hb
    simp only [instT] at hb
    split at hb
    · rename_i u v h1 h2; cases hb; simp only [IT.ev, ihx h1, ihy h2]
    · cases hb
  | mn x y ihx ihy =>
    intro b hb
    simp only [instT] at hb
    split at hb
    · rename_i u v h1 h2; cases hb; simp only [IT.ev, ihx h1, ihy h2]
    · cases hb
  | wr k x ih =>
    intro b hb
    simp only [instT] at hb
    split at hb
    · rename_i u h1; cases hb; simp only [IT.ev, ih h1]
    · cases hb
mutual
def instV (L : List (Nat × Nat)) (sy : List (Nat × IT)) : AV → Option AV
  | .und => some .und
  | .bool b => some (.bool b)
  | .int k n => some (.int k n)
  | .flt k n => some (.flt k n)
  | .exp k t => match instT sy t with
    | some u => some (.exp k u)
    | none => none
  | .bex _ => none
  | .str s => some (.str s)
  | .nilp => some .nilp
  | .ptr n o => match lkN L n with
    | some m => some (.ptr m o)
    | none => none
  | .nils => some .nils
  | .sl n o l c s => match lkN L n with
    | some m => some (.sl m o l c s)
    | none => none
  | .sle => none
  | .nilm => some .nilm
  | .map _ => none
  | .func _ _ _ => none
  | .nilf => some .nilf
  | .iface _ _ => none
  | .nilif => some .nilif
  | .agg cs => match instVs L sy cs with
    | some ds => some (.agg ds)
    | none => none
  | .tup cs => match instVs L sy cs with
    | some ds => some (.tup ds)
    | none => none
  | .pan _ => none
def instVs (L : List (Nat × Nat)) (sy : List (Nat × IT)) : List AV → Option (List AV)
  | [] => some []
  | a :: r => match instV L sy a with
    | some b => (match instVs L sy r with
      | some s => some (b :: s)
      | none => none)
    | none => none
end
section
variable {L : List (Nat × Nat)} {sy : List (Nat × IT)} {A B : NM}
mutual
theorem instV_ok (hn : ∀ i m, lkN L i = some m → A m = B i) (hs : ∀ i t, lkS sy i = some t → B.sy i = t.ev A.sy) : ∀ (a b : AV) (V : Value), instV L sy a = some b → RV B a V → RV A b V
  | .und, b, V, h, H => by simp only [instV] at h; cases h; simpa only [RV] using H
  | .bool _, b, V, h, H => by simp only [instV] at h; cases h; simpa only [RV] using H
  | .int _ _, b, V, h, H => by simp only [instV] at h; cases h; simpa only [RV] using H
  | .flt _ _, b, V, h, H => by simp only [instV] at h; cases h; simpa only [RV] using H
  | .exp k t, b, V, h, H => by
    simp only [instV] at h
    split at h
    · rename_i u hu
      cases h
      simp only [RV] at H ⊢
      rw [H, instT_ok hs hu]
    · cases h
  | .bex _, b, V, h, H => by simp only [instV] at h; cases h
  | .str _, b, V, h, H => by simp only [instV] at h; cases h; simpa only [RV] using H
  | .nilp, b, V, h, H => by simp only [instV] at h; cases h; simpa only [RV] using H
  | .ptr n o, b, V, h, H => by
    simp only [instV] at h
    split at h
    · rename_i m hm
      cases h
      simp only [RV] at H ⊢
      rw [hn n m hm]; exact H
    · cases h
  | .nils, b, V, h, H => by simp only [instV] at h; cases h; simpa only [RV] using H
  | .sl n o l c s, b, V, h, H => by
    simp only [instV] at h
    split at h
    · rename_i m hm
      cases h
      simp only [RV] at H ⊢
      rw [hn n m hm]; exact H
    · cases h
  | .sle, b, V, h, H => by simp only [instV] at h; cases h
  | .nilm, b, V, h, H => by simp only [instV] at h; cases h; simpa only [RV] using H
  | .map _, b, V, h, H => by simp only [instV] at h; cases h
  | .func _ _ _, b, V, h, H => by simp only [instV] at h; cases h
  | .nilf, b, V, h, H => by simp only [instV] at h; cases h; simpa only [RV] using H
  | .iface _ _, b, V, h, H => by simp only [instV] at h; cases h
  | .nilif, b, V, h, H => by simp only [instV] at h; cases h; simpa only [RV] using H
  | .agg cs, b, V, h, H => by
    simp only [instV] at h
    split at h
    · rename_i ds hd
      cases h
      simp only [RV] at H ⊢
      obtain ⟨vs, h1, h2⟩ := H
      exact ⟨vs, h1, instVs_ok hn hs cs ds vs hd h2⟩
    · cases h
  | .tup cs, b, V, h, H => by
    simp only [instV] at h
    split at h
    · rename_i ds hd
      cases h
      simp only [RV] at H ⊢
      obtain ⟨vs, h1, h2⟩ := H
      exact ⟨vs, h1, instVs_ok hn hs cs ds vs hd h2⟩
    · cases h
  | .pan _, b, V, h, H => by simp only [instV] at h; cases h
theorem instVs_ok (hn : ∀ i m, lkN L i = some m → A m = B i) (hs : ∀ i t, lkS sy i = some t → B.sy i = t.ev A.sy) : ∀ (a b : List AV) (vs : List Value), instVs L sy a = some b → RVs B a vs → RVs A b vs
  | [], b, vs, h, H => by simp only [instVs] at h; cases h; simpa only [RVs] using H
  | a :: r, b, vs, h, H => by
    simp only [instVs] at h
    split at h
    · rename_i b1 h1
      split at h
      · rename_i s h2
        cases h
        simp only [RVs] at H ⊢
        obtain ⟨v, t, h3, h4, h5⟩ := H
        exact ⟨v, t, h3, instV_ok hn hs a b1 v h1 h4, instVs_ok hn hs r s t h2 h5⟩
      · cases h
    · cases h
end
theorem instVs_len : ∀ {a b : List AV}, instVs L sy a = some b → a.length = b.length
  | [], b, h => by simp only [instVs] at h; cases h; rfl
  | a :: r, b, h => by
    simp only [instVs] at h
    split at h
    · split at h
      · rename_i h2; cases h; simp only [List.length_cons, instVs_len h2]
      · cases h
    · cases h
def instO (L : List (Nat × Nat)) (sy : List (Nat × IT)) (o : AO) : Option AO := match o with
  | .cells cs E => (match instVs L sy cs with
    | some ds => some (.cells ds E)
    | none => none)
  | _ => none
theorem instO_ok (hn : ∀ i m, lkN L i = some m → A m = B i) (hs : ∀ i t, lkS sy i = some t → B.sy i = t.ev A.sy) {a b : AO} {w : World} {n m : Nat} (h : instO L sy a = some b) (hm : A m = B n) (H : RO B w n a) : RO A w m b ∧ a ≠ .dead ∧ b ≠ .dead := by
  unfold instO at h
  split at h
  · split at h
    · rename_i cs E ds hd
      cases h
      obtain ⟨b, p, z, c, h1, h2, h3, h4, h5⟩ := H
      have hl := instVs_len hd
      exact ⟨⟨b, p, z, c, by rw [hm]; exact h1, h2, h3, by omega, by rw [← hl]; exact instVs_ok hn hs _ _ _ hd h5⟩, by simp, by simp⟩
    · cases h
  · cases h
end
/-! ### New objects beside those that are there -/
def putN : AS → Nat → List AO → AS
  | S, _, [] => S
  | S, n, o :: r => putN (S.put n o) (n + 1) r
theorem putN_get : ∀ (l : List AO) (S : AS) (n m : Nat), (putN S n l).get m = if n ≤ m ∧ m < n + l.length then l[m - n]? else S.get m
  | [], S, n, m => by
    rw [if_neg (by simp only [List.length_nil]; omega)]; rfl
  | o :: r, S, n, m => by
    show (putN (S.put n o) (n + 1) r).get m = _
    rw [putN_get r, AS.get_put]
    by_cases h : n + 1 ≤ m ∧ m < n + 1 + r.length
    · rw [if_pos h, if_pos (by simp only [List.length_cons]; omega)]
      rw [show m - n = (m - (n + 1)) + 1 by omega, List.getElem?_cons_succ]
    · rw [if_neg h]
      by_cases e : m = n
      · subst e
        rw [if_pos rfl, if_pos (by simp), Nat.sub_self]; rfl
      · rw [if_neg e, if_neg (by simp only [List.length_cons]; omega)]
theorem putN_low : ∀ (l : List AO) (S : AS) (n : Nat), (putN S n l).low = S.low ∧ (putN S n l).facts = S.facts
  | [], S, n => ⟨rfl, rfl⟩
  | o :: r, S, n => putN_low r (S.put n o) (n + 1)
/-- The names that are new, and what they are called here. -/
def callN : Nat → List (Nat × AO) → List (Nat × Nat)
  | _, [] => []
  | n, p :: r => (p.1, n) :: callN (n + 1) r
theorem callN_lk : ∀ {l : List (Nat × AO)} {n i m : Nat}, lkN (callN n l) i = some m → n ≤ m ∧ ∃ o, l[m - n]? = some (i, o)
  | [], n, i, m, h => by cases h
  | p :: r, n, i, m, h => by
    unfold callN lkN at h
    cases hb : Nat.beq p.1 i with
    | true =>
      simp only [hb, cond_true] at h
      cases h
      have := beqT hb
      exact ⟨Nat.le_refl _, p.2, by rw [Nat.sub_self]; simp [← this]⟩
    | false =>
      simp only [hb, cond_false] at h
      obtain ⟨h1, o, h2⟩ := callN_lk h
      exact ⟨by omega, o, by rw [show m - n = (m - (n + 1)) + 1 by omega, List.getElem?_cons_succ]; exact h2⟩
def nmAdd (A B : NM) (n : Nat) (l : List (Nat × AO)) : NM := ⟨fun m => match (if n ≤ m then l[m - n]? else none) with
  | some p => B p.1
  | none => A m, A.sy⟩
theorem nmAdd_new {A B : NM} {n m : Nat} {l : List (Nat × AO)} {p : Nat × AO} (h : n ≤ m) (hp : l[m - n]? = some p) : nmAdd A B n l m = B p.1 := by
  show (match (if n ≤ m then l[m - n]? else none) with
  | some p => B p.1
  | none => A m) = _
  rw [if_pos h, hp]
theorem nmAdd_old {A B : NM} {n m : Nat} {l : List (Nat × AO)} (h : m < n ∨ l[m - n]? = none) : nmAdd A B n l m = A m := by
  show (match (if n ≤ m then l[m - n]? else none) with
  | some p => B p.1
  | none => A m) = _
  by_cases hn : n ≤ m
  · rw [if_pos hn]
    rcases h with h | h
    · omega
    · rw [h]
  · rw [if_neg hn]
def freeR (S : AS) : Nat → Nat → Bool
  | _, 0 => true
  | n, k + 1 => (Nat.ble S.low n && match S.get n with
    | none => true
    | some _ => false) && freeR S (n + 1) k
theorem freeR_ok {S : AS} : ∀ {k n : Nat}, freeR S n k = true → ∀ m, n ≤ m → m < n + k → S.free m
  | 0, n, _, m, h1, h2 => by omega
  | k + 1, n, h, m, h1, h2 => by
    unfold freeR at h
    simp only [Bool.and_eq_true] at h
    obtain ⟨⟨h3, h4⟩, h5⟩ := h
    by_cases e : m = n
    · subst e
      refine ⟨Nat.le_of_ble_eq_true h3, ?_⟩
      split at h4
      · assumption
      · cases h4
    · exact freeR_ok h5 m (by omega) (by omega)
theorem RW.merge {U F : Nat → Prop} {w0 w w' : World} {A B : NM} {S S1 : AS} {nm : List (Nat × Nat)} {base t : Nat} {new : List (Nat × AO)} {news : List AO} (H : RW U w0 A S w) (K : RW F w B S1 w')
    (hF : ∀ b, F b → ∃ p ∈ nm, ∃ x z, A p.2 = some (b, x, z)) (hM : ∀ p ∈ nm, B p.1 = A p.2) (hd : ∀ p ∈ nm, (∃ o, S.get p.2 = some o ∧ o ≠ .dead) ∧ (∃ o, S1.get p.1 = some o ∧ o ≠ .dead) ∧ p.1 < t)
    (ho : ∀ p ∈ nm, ∀ o, S.get p.2 = some o → RO A w' p.2 o) (hnew : ∀ p ∈ new, t ≤ p.1 ∧ S1.get p.1 = some p.2 ∧ p.2 ≠ .dead) (hnd : ∀ (i j : Nat) (p q : Nat × AO), new[i]? = some p → new[j]? = some q → p.1 = q.1 → i = j) (hfree : freeR S base new.length = true) (hlen : news.length = new.length)
    (hnews : ∀ (k : Nat) (p : Nat × AO) (o : AO), new[k]? = some p → news[k]? = some o → RO (nmAdd A B base new) w' (base + k) o) :
    A.le (nmAdd A B base new) ∧ RW U w0 (nmAdd A B base new) (putN S base news) w' := by
  have hfr := freeR_ok hfree
  have hle : A.le (nmAdd A B base new) := by
    refine ⟨fun n x hn => ?_, rfl⟩
    by_cases h : base ≤ n ∧ n < base + new.length
    · rw [H.fresh n (hfr n h.1 h.2)] at hn; cases hn
    · rw [nmAdd_old]
      · exact hn
      · by_cases hb : n < base
        · exact .inl hb
        · exact .inr (List.getElem?_eq_none (by omega))
  have hcase : ∀ n b p z, nmAdd A B base new n = some (b, p, z) → (∃ q, base ≤ n ∧ new[n - base]? = some q ∧ B q.1 = some (b, p, z)) ∨ (A n = some (b, p, z) ∧ (n < base ∨ new[n - base]? = none)) := by
    intro n b p z hn
    by_cases hb : base ≤ n
    · cases hq : new[n - base]? with
      | some q => rw [nmAdd_new hb hq] at hn; exact .inl ⟨q, hb, rfl, hn⟩
      | none => rw [nmAdd_old (.inr hq)] at hn; exact .inr ⟨hn, .inr rfl⟩
    · rw [nmAdd_old (.inl (by omega))] at hn; exact .inr ⟨hn, .inl (by omega)⟩
  -- a new one's block is none of the old ones'
  have hcross : ∀ n b p z q y r x, A n = some (b, p, z) → q ∈ new → B q.1 = some (b, y, r) → x = b → False := by
    intro n b p z q y r x hn hq hB _
    obtain ⟨h1, h2, h3⟩ := hnew q hq
    rcases (K.above q.1 b y r hB).1 with hb | hb
    · obtain ⟨m, hm, x', z', hA⟩ := hF b hb
      obtain ⟨_, ⟨o, h4, h5⟩, h6⟩ := hd m hm
      have := hM m hm
      rw [hA] at this
      rcases K.apart q.1 m.1 b y r x' z' _ _ (by omega) hB this h2 h4 with e | e
      · exact h3 e
      · exact h5 e
    · have := (H.above n b p z hn).2
      omega
  have hext : Ext U w0 w' := by
    refine ⟨K.ext.os.trans H.ext.os, K.ext.tape.trans H.ext.tape, K.ext.output.trans H.ext.output, Nat.le_trans H.ext.size K.ext.size, fun k hk hn => ?_⟩
    rw [K.ext.block k (Nat.lt_of_lt_of_le hk H.ext.size) ?_]
    · exact H.ext.block k hk hn
    · intro hb
      obtain ⟨m, hm, x', z', hA⟩ := hF k hb
      rcases (H.above m.2 k x' z' hA).1 with h | h
      · exact hn h
      · omega
  have hlow := putN_low news S base
  refine ⟨hle, ⟨hext, ?_, ?_, ?_, ?_, ?_, ?_⟩⟩
  · intro n hn
    obtain ⟨h1, h2⟩ := hn
    rw [hlow.1] at h1
    rw [putN_get] at h2
    by_cases h : base ≤ n ∧ n < base + news.length
    · rw [if_pos h] at h2
      rw [List.getElem?_eq_none_iff] at h2
      omega
    · rw [if_neg h] at h2
      rw [nmAdd_old]
      · exact H.fresh n ⟨h1, h2⟩
      · by_cases hb : n < base
        · exact .inl hb
        · exact .inr (List.getElem?_eq_none (by omega))
  · intro n b p z hn
    rcases hcase n b p z hn with ⟨q, h1, h2, h3⟩ | ⟨h1, _⟩
    · have h4 := K.above q.1 b p z h3
      refine ⟨?_, h4.2⟩
      rcases h4.1 with hb | hb
      · obtain ⟨m, hm, x', z', hA⟩ := hF b hb
        exact (H.above m.2 b x' z' hA).1
      · exact .inr (Nat.le_trans H.ext.size hb)
    · have h4 := H.above n b p z h1
      exact ⟨h4.1, Nat.lt_of_lt_of_le h4.2 K.ext.size⟩
  · intro n o hn
    rw [putN_get] at hn
    by_cases h : base ≤ n ∧ n < base + news.length
    · rw [if_pos h] at hn
      obtain ⟨k, rfl⟩ : ∃ k, n = base + k := ⟨n - base, by omega⟩
      rw [Nat.add_sub_cancel_left] at hn
      have hk : k < new.length := by omega
      exact hnews k _ o (List.getElem?_eq_getElem hk) hn
    · rw [if_neg h] at hn
      have hRO : RO A w' n o := by
        by_cases hm : ∃ p ∈ nm, p.2 = n
        · obtain ⟨p, hp, rfl⟩ := hm
          exact ho p hp o hn
        · by_cases hdd : o = .dead
          · subst hdd; trivial
          · refine (H.obj n o hn).up (NM.le.refl A) fun b p z hA => K.ext.block b (H.above n b p z hA).2 fun hb => ?_
            obtain ⟨m, hmm, x', z', hA'⟩ := hF b hb
            obtain ⟨⟨o', h4, h5⟩, _⟩ := hd m hmm
            rcases H.apart n m.2 b p z x' z' _ _ (fun e => hm ⟨m, hmm, e.symm⟩) hA hA' hn h4 with e | e
            · exact hdd e
            · exact h5 e
      exact hRO.up hle (fun _ _ _ _ => rfl)
  · intro n m b p z q y o o' hnm hn hm h1 h2
    rw [putN_get] at h1 h2
    rcases hcase n b p z hn with ⟨u, g1, g2, g3⟩ | ⟨g1, g2⟩ <;> rcases hcase m b q y hm with ⟨v, k1, k2, k3⟩ | ⟨k1, k2⟩
    · obtain ⟨a1, a2, a3⟩ := hnew u (List.mem_of_getElem? g2)
      obtain ⟨b1, b2, b3⟩ := hnew v (List.mem_of_getElem? k2)
      have hne : u.1 ≠ v.1 := fun e => by
        have := hnd _ _ u v g2 k2 e
        omega
      rcases K.apart u.1 v.1 b p z q y _ _ hne g3 k3 a2 b2 with e | e
      · exact (a3 e).elim
      · exact (b3 e).elim
    · exact (hcross m b q y u p z b k1 (List.mem_of_getElem? g2) g3 rfl).elim
    · exact (hcross n b p z v q y b g1 (List.mem_of_getElem? k2) k3 rfl).elim
    · have e1 : ¬ (base ≤ n ∧ n < base + news.length) := by
        rintro ⟨h3, h4⟩
        rcases g2 with g2 | g2
        · omega
        · rw [List.getElem?_eq_none_iff] at g2; omega
      have e2 : ¬ (base ≤ m ∧ m < base + news.length) := by
        rintro ⟨h3, h4⟩
        rcases k2 with k2 | k2
        · omega
        · rw [List.getElem?_eq_none_iff] at k2; omega
      rw [if_neg e1] at h1
      rw [if_neg e2] at h2
      exact H.apart n m b p z q y o o' hnm g1 k1 h1 h2
  · intro p hp
    rw [hlow.2] at hp
    exact H.facts p hp
  · intro n b p z hn
    rcases hcase n b p z hn with ⟨q, h1, h2, h3⟩ | ⟨h1, _⟩
    · exact K.zero q.1 b p z h3
    · exact H.zero n b p z h1
/-! ### Calls -/
/-- A call that was evaluated: the function, its arguments, what they name; what comes, and what is new. -/
structure EntF where
  f : Nat
  l : List AV
  T : List AO
  outs : List (AV × List (Nat × AO))
def nodupN : List (Nat × AO) → Bool
  | [] => true
  | p :: r => (!r.any (fun q => Nat.beq q.1 p.1)) && nodupN r
theorem nodupN_ok : ∀ {l : List (Nat × AO)}, nodupN l = true → ∀ (i j : Nat) (p q : Nat × AO), l[i]? = some p → l[j]? = some q → p.1 = q.1 → i = j
  | [], _, i, j, p, q, h, _, _ => by cases h
  | a :: r, h, i, j, p, q, h1, h2, e => by
    unfold nodupN at h
    rw [Bool.and_eq_true, Bool.not_eq_true'] at h
    have hno : ∀ x ∈ r, x.1 ≠ a.1 := by
      intro x hx hxa
      have := List.any_eq_false.1 h.1 x hx
      rw [hxa] at this
      exact this (Nat.beq_refl _)
    cases i with
    | zero =>
      simp only [List.getElem?_cons_zero, Option.some.injEq] at h1
      subst h1
      cases j with
      | zero => rfl
      | succ j =>
        rw [List.getElem?_cons_succ] at h2
        exact absurd e.symm (hno q (List.mem_of_getElem? h2))
    | succ i =>
      rw [List.getElem?_cons_succ] at h1
      cases j with
      | zero =>
        simp only [List.getElem?_cons_zero, Option.some.injEq] at h2
        subst h2
        exact absurd e (hno p (List.mem_of_getElem? h1))
      | succ j =>
        rw [List.getElem?_cons_succ] at h2
        rw [nodupN_ok h.2 i j p q h1 h2 e]
def newsOK (t : Nat) (l : List (Nat × AO)) : Bool := nodupN l && l.all (fun p => Nat.ble t p.1)
def someF (e : EntF) (o : AV × AS) : Bool := e.outs.any fun u => avEq o.1 u.1 && (sameObjs o.2 (enumL 0 e.T) && (sameObjs o.2 u.2 && newsOK e.T.length u.2))
def chkF (C : Caller) (e : EntF) : Bool := match C e.f e.l (stT e.T []) with
  | some os => os.all fun o => isNone (panV o.1) && someF e o
  | none => false
def EntFOK (P : Program) (e : EntF) : Prop := (∀ (l : Array Value) w, (callFunc e.f l).run P w = .ok (.enter e.f l) w) ∧
  ∀ U w A ls, RVs A e.l ls → RW U w A (stT e.T []) w → Calls P e.f ls.toArray w (fun en w' => ∃ u ∈ e.outs, ∃ B v S', en = .returned v ∧ A.le B ∧ RV B u.1 v ∧ RW U w B S' w' ∧ (∀ i o, e.T[i]? = some o → S'.get i = some o) ∧ (∀ p ∈ u.2, S'.get p.1 = some p.2) ∧ newsOK e.T.length u.2 = true)
theorem EntFOK.of {P : Program} {C : Caller} {e : EntF} (hC : ∀ U w0, CallsOK P U w0 C) (h : chkF C e = true) : EntFOK P e := by
  unfold chkF at h
  split at h
  · rename_i os hc
    refine ⟨(hC (fun _ => True) default _ _ _ _ hc).1, fun U w A ls hl H => Calls.mono ((hC U w _ _ _ _ hc).2 A ls w hl H) ?_⟩
    rintro en w' ⟨o, ho, B, hB, hen, HW⟩
    have h1 := List.all_eq_true.1 h o ho
    rw [Bool.and_eq_true] at h1
    obtain ⟨v, rfl, hv⟩ := hen.ret h1.1
    obtain ⟨u, hu, h2⟩ := List.any_eq_true.1 h1.2
    simp only [Bool.and_eq_true] at h2
    obtain ⟨h3, h4, h5, h6⟩ := h2
    have h3 := avEq_ok _ _ h3
    refine ⟨u, hu, B, v, o.2, rfl, hB, by rw [← h3]; exact hv, HW, fun i o' hi => ?_, sameObjs_ok h5, h6⟩
    have := enumL_get (n := 0) hi
    rw [Nat.zero_add] at this
    exact sameObjs_ok h4 _ this
  · cases h
def instOs (L : List (Nat × Nat)) (sy : List (Nat × IT)) : List (Nat × AO) → Option (List AO)
  | [] => some []
  | p :: r => match instO L sy p.2 with
    | some o => (match instOs L sy r with
      | some s => some (o :: s)
      | none => none)
    | none => none
theorem instOs_get {L : List (Nat × Nat)} {sy : List (Nat × IT)} : ∀ {l : List (Nat × AO)} {m : List AO}, instOs L sy l = some m → m.length = l.length ∧ ∀ (k : Nat) (p : Nat × AO) (o : AO), l[k]? = some p → m[k]? = some o → instO L sy p.2 = some o
  | [], m, h => by cases h; exact ⟨rfl, fun k p o h => by cases h⟩
  | q :: r, m, h => by
    unfold instOs at h
    split at h
    · rename_i o h1
      split at h
      · rename_i s h2
        cases h
        obtain ⟨h3, h4⟩ := instOs_get h2
        refine ⟨by simp only [List.length_cons, h3], fun k p o' hp ho => ?_⟩
        cases k with
        | zero =>
          simp only [List.getElem?_cons_zero, Option.some.injEq] at hp ho
          subst hp; subst ho; exact h1
        | succ k =>
          rw [List.getElem?_cons_succ] at hp ho
          exact h4 k p o' hp ho
      · cases h
    · cases h
def applyF (M : MT) (S : AS) (u : AV × List (Nat × AO)) : Option (List (AV × AS)) := match instV (M.nm ++ callN S.next u.2) M.sy u.1, instOs (M.nm ++ callN S.next u.2) M.sy u.2 with
  | some r, some os => bif freeR S S.next u.2.length then some [(r, (putN S S.next os).step (S.next + u.2.length))] else none
  | _, _ => none
def memoF (e : EntF) (l : List AV) (S : AS) : Option (List (AV × AS)) := match uniVs e.l l ⟨[], []⟩ with
  | some M => match uniT e.T 0 S M with
    | some M' => bif namesLt e.T.length M'.nm then bindL (applyF M' S) e.outs else none
    | none => none
  | none => none
/-- Calls that are looked up, by the function. -/
def memo : List EntF → Caller
  | [], _, _, _ => none
  | e :: r, f, l, S => bif Nat.beq e.f f then (match memoF e l S with
    | some outs => some outs
    | none => memo r f l S) else memo r f l S
theorem lkN_app {a b : List (Nat × Nat)} {i m : Nat} (h : lkN (a ++ b) i = some m) : lkN a i = some m ∨ (lkN b i = some m) := by
  induction a with
  | nil => exact .inr h
  | cons p r ih =>
    have e1 : lkN ((p :: r) ++ b) i = bif Nat.beq p.1 i then some p.2 else lkN (r ++ b) i := rfl
    have e2 : lkN (p :: r) i = bif Nat.beq p.1 i then some p.2 else lkN r i := rfl
    rw [e1] at h
    rw [e2]
    cases hb : Nat.beq p.1 i with
    | true => rw [hb] at h; exact .inl h
    | false => rw [hb] at h; exact ih h
theorem memoF_ok {P : Program} {e : EntF} {l : List AV} {S : AS} {outs : List (AV × AS)} (he : EntFOK P e) (h : memoF e l S = some outs) {U : Nat → Prop} {w0 w : World} {A : NM} {ls : List Value} (hl : RVs A l ls) (H : RW U w0 A S w) :
    Calls P e.f ls.toArray w (fun en w' => ∃ o ∈ outs, ∃ B, A.le B ∧ Ends B o.1 en ∧ RW U w0 B o.2 w') := by
  unfold memoF at h
  split at h
  · rename_i M1 h1
    split at h
    · rename_i M h2
      cases hb : namesLt e.T.length M.nm with
      | false => rw [hb] at h; cases h
      | true =>
        rw [hb, cond_true] at h
        have hnm := namesLt_ok hb
        obtain ⟨g1, k1⟩ := uniVs_ok _ _ _ _ h1
        obtain ⟨g2, k2⟩ := uniT_ok _ _ _ _ _ h2
        have W : M.WF := g2.w (g1.w ⟨fun p hp => (by cases hp), fun p hp => (by cases hp), fun p hp => (by cases hp)⟩)
        have hfit : MFits M A ⟨nmOf A M, syOf A M⟩ := ⟨fun p hp => nmOf_some (W.n p hp), fun p hp => syOf_some (W.s p hp)⟩
        have hobj : ∀ p ∈ M.nm, ∃ o, S.get p.2 = some o ∧ o ≠ .dead ∧ ∃ a, e.T[p.1]? = some a ∧ ∀ A B w, MFits M A B → (RO A w p.2 o ↔ RO B w p.1 a) := by
          intro p hp
          have hlt := hnm p hp
          obtain ⟨m', b, h3, h4, h5, h6⟩ := k2 p.1 _ (List.getElem?_eq_getElem hlt)
          rw [Nat.zero_add] at h3 h6
          have e1 := W.n _ h3
          have e2 := W.n _ hp
          dsimp only at e1
          rw [e1] at e2
          cases e2
          exact ⟨b, h4, h5, _, List.getElem?_eq_getElem hlt, h6⟩
        -- into the call's own heap
        have HW : RW (fun b => ∃ p ∈ M.nm, ∃ x z, A p.2 = some (b, x, z)) w ⟨nmOf A M, syOf A M⟩ (stT e.T []) w := by
          refine ⟨Ext.refl _ _, ?_, ?_, ?_, ?_, fun q hq => (by cases hq), ?_⟩
          · intro n hn
            have := stT_none hn.2
            cases hk : lkN M.nm n with
            | none => exact nmOf_none hk
            | some m =>
              have := hnm _ (lkN_mem hk)
              simp only at this
              omega
          · intro n b p z hn
            obtain ⟨m, hm, hA⟩ := nmOf_inv hn
            exact ⟨.inl ⟨_, lkN_mem hm, p, z, hA⟩, (H.above m b p z hA).2⟩
          · intro n o hn
            have h3 := stT_get hn
            obtain ⟨m, b, h4, h5, h6, h7⟩ := k2 n o h3
            rw [Nat.zero_add] at h4 h7
            exact (h7 A _ w hfit).1 (H.obj m b h5)
          · intro n m b p z q y o o' hnm' hn hm _ _
            obtain ⟨a, ha, hA⟩ := nmOf_inv hn
            obtain ⟨c, hc, hC⟩ := nmOf_inv hm
            have ha := lkN_mem ha
            have hc := lkN_mem hc
            obtain ⟨oa, h3, h4, _⟩ := hobj _ ha
            obtain ⟨oc, h5, h6, _⟩ := hobj _ hc
            have hne : a ≠ c := fun e' => hnm' (W.i _ ha _ hc e')
            rcases H.apart a c b p z q y oa oc hne hA hC h3 h5 with e' | e'
            · exact (h4 e').elim
            · exact (h6 e').elim
          · intro n b p z hn
            obtain ⟨m, hm, hA⟩ := nmOf_inv hn
            exact H.zero m b p z hA
        have hls : RVs ⟨nmOf A M, syOf A M⟩ e.l ls := (k1 A _ ls (hfit.back g2)).1 hl
        refine Calls.mono (he.2 _ _ _ _ hls HW) ?_
        rintro en w' ⟨u, hu, B, v, S', rfl, hB, hv, K, hT, hN, hnew⟩
        obtain ⟨os, ho, hsub⟩ := bindL_mem h u hu
        unfold applyF at ho
        split at ho
        · rename_i r news hr hnews
          cases hf : freeR S S.next u.2.length with
          | false => rw [hf] at ho; cases ho
          | true =>
            rw [hf] at ho
            cases ho
            unfold newsOK at hnew
            rw [Bool.and_eq_true] at hnew
            have hall := List.all_eq_true.1 hnew.2
            have hMB : ∀ p ∈ M.nm, B p.1 = A p.2 := by
              intro p hp
              obtain ⟨o, h3, _⟩ := hobj p hp
              have hnS : (⟨nmOf A M, syOf A M⟩ : NM) p.1 = A p.2 := nmOf_some (W.n p hp)
              cases hA : A p.2 with
              | some x => rw [hB.1 p.1 x (hnS.trans hA)]
              | none =>
                obtain ⟨o', h9, h10, a, h11, h12⟩ := hobj p hp
                have := H.obj p.2 o' h9
                cases o' with
                | cells cs E => obtain ⟨b, q, z, c, h13, _⟩ := this; rw [hA] at h13; cases h13
                | map es c => obtain ⟨b, q, z, c, h13, _⟩ := this; rw [hA] at h13; cases h13
                | iter m s l t => obtain ⟨b, z, bm, pm, zm, h13, _⟩ := this; rw [hA] at h13; cases h13
                | dead => exact (h10 rfl).elim
            have hBsy : ∀ q ∈ M.sy, B.sy q.1 = q.2.ev A.sy := by
              intro q hq
              rw [hB.2]
              exact syOf_some (W.s q hq)
            have hlk : ∀ i m, lkN (M.nm ++ callN S.next u.2) i = some m → nmAdd A B S.next u.2 m = B i := by
              intro i m him
              rcases lkN_app him with h3 | h3
              · have hp := lkN_mem h3
                rw [hMB _ hp]
                obtain ⟨o, h4, _⟩ := hobj _ hp
                by_cases hr' : S.next ≤ m ∧ m < S.next + u.2.length
                · have := (freeR_ok hf m hr'.1 hr'.2).2
                  rw [h4] at this; cases this
                · refine nmAdd_old ?_
                  by_cases hb' : m < S.next
                  · exact .inl hb'
                  · exact .inr (List.getElem?_eq_none (by omega))
              · obtain ⟨h4, o, h5⟩ := callN_lk h3
                exact nmAdd_new h4 h5
            have hls' : ∀ i t, lkS M.sy i = some t → B.sy i = t.ev (nmAdd A B S.next u.2).sy := by
              intro i t hit
              have hmem : ∀ {l : List (Nat × IT)}, lkS l i = some t → (i, t) ∈ l := by
                intro l
                induction l with
                | nil => intro h; cases h
                | cons p r ih =>
                  intro h
                  unfold lkS at h
                  cases hq : Nat.beq p.1 i with
                  | true => rw [hq] at h; cases h; rw [← beqT hq]; exact List.mem_cons_self ..
                  | false => rw [hq] at h; exact List.mem_cons_of_mem _ (ih h)
              exact hBsy _ (hmem hit)
            obtain ⟨hnl, hng⟩ := instOs_get hnews
            obtain ⟨hle, hW⟩ := RW.merge (t := e.T.length) (nm := M.nm) (base := S.next) (new := u.2) (news := news) H K (fun b hb => hb) hMB (fun p hp => by
                obtain ⟨o, h3, h4, a, h5, _⟩ := hobj p hp
                refine ⟨⟨o, h3, h4⟩, ⟨a, hT _ _ h5, ?_⟩, hnm p hp⟩
                rintro rfl
                obtain ⟨m', b, _, _, h9, h10⟩ := k2 p.1 _ h5
                have := uniT_nd _ _ _ _ _ h2 p.1 _ h5
                exact this rfl) (fun p hp o hpo => by
                obtain ⟨o', h3, h4, a, h5, h6⟩ := hobj p hp
                rw [h3] at hpo
                cases hpo
                exact (h6 A B w' ⟨hMB, hBsy⟩).2 (K.obj _ _ (hT _ _ h5))) (fun p hp => by
                refine ⟨Nat.le_of_ble_eq_true (hall p hp), hN p hp, ?_⟩
                obtain ⟨k, hk, hkp⟩ := List.getElem_of_mem hp
                have hk' : k < news.length := by omega
                have := hng k p _ (by rw [List.getElem?_eq_getElem hk, hkp]) (List.getElem?_eq_getElem hk')
                rintro e'
                rw [e'] at this
                cases this) (nodupN_ok hnew.1) hf hnl (fun k p o hp ho' => by
                have hi := hng k p o hp ho'
                exact (instO_ok hlk hls' hi (nmAdd_new (p := p) (Nat.le_add_right _ _) (by rw [Nat.add_sub_cancel_left]; exact hp)) (K.obj _ _ (hN p (List.mem_of_getElem? hp)))).1)
            exact ⟨_, hsub _ (List.mem_singleton.2 rfl), _, hle, .inl ⟨v, rfl, instV_ok hlk hls' _ _ _ hr hv⟩, hW.step _⟩
        · cases ho
    · cases h
  · cases h
theorem memo_ok {P : Program} {U : Nat → Prop} {w0 : World} : ∀ {es : List EntF}, (∀ e ∈ es, EntFOK P e) → CallsOK P U w0 (memo es)
  | [], _ => fun _ _ _ _ h => by cases h
  | e :: r, H => by
    intro f l S outs h
    unfold memo at h
    cases hb : Nat.beq e.f f with
    | false => rw [hb] at h; exact memo_ok (fun e he => H e (List.mem_cons_of_mem _ he)) f l S outs h
    | true =>
      rw [hb, cond_true] at h
      split at h
      · rename_i os ho
        cases h
        have := beqT hb; subst this
        have he := H e (List.mem_cons_self ..)
        exact ⟨he.1, fun A ls w hl HW => memoF_ok he ho hl HW⟩
      · exact memo_ok (fun e he => H e (List.mem_cons_of_mem _ he)) f l S outs h
/-! ### Evaluation with calls that are looked up -/
def callO (O C : Caller) : Caller := fun f l S => match O f l S with
  | some outs => some outs
  | none => C f l S
theorem callO_ok {P : Program} {U : Nat → Prop} {w0 : World} {O C : Caller} (hO : CallsOK P U w0 O) (hC : CallsOK P U w0 C) : CallsOK P U w0 (callO O C) := by
  intro f l S outs h
  unfold callO at h
  split at h
  · cases h; exact hO _ _ _ _ (by assumption)
  · exact hC _ _ _ _ h
def execO (O : Caller) (P : Program) (T : Plans) (F : Nat → Option Func) (M : Nat → Nat) : Nat → Exec × Caller
  | 0 => (fun _ _ _ _ _ _ => none, fun _ _ _ => none)
  | k + 1 => (execS P T (execO O P T F M k).1 (execO O P T F M k).2, callO O (callA P F M (execO O P T F M k).1 (execO O P T F M k).2))
theorem execO_ok {P : Program} {U : Nat → Prop} {w0 : World} {T : Plans} {F : Nat → Option Func} {M : Nat → Nat} {O : Caller} (hm : P.follows .mixedOrders = true) (hF : FunsOK P T F) (hO : CallsOK P U w0 O) : ∀ k, Good P U w0 T (execO O P T F M k).1 ∧ CallsOK P U w0 (execO O P T F M k).2
  | 0 => ⟨fun _ _ _ _ _ _ _ h => (by cases h), fun _ _ _ _ h => (by cases h)⟩
  | k + 1 => ⟨execS_good hm (execO_ok hm hF hO k).1 (execO_ok hm hF hO k).2, callO_ok hO (callA_ok hF (execO_ok hm hF hO k).1 (execO_ok hm hF hO k).2)⟩
end Go.V
namespace Go.Proofs.YtgmmbdmdimkfjaaGreat
set_option linter.unusedVariables false
open Go.V
def n0 : AV := .int .i64 0
def nI (n : Nat) : AV := .int .i64 (.ofNat n)
def nl : AV := .nils
def sy (i : Nat) : AV := .exp .i64 (.sym i)
def b8 (n : Nat) : AV := .int .u8 (.ofNat n)
def rep {α : Type} (a : α) : Nat → List α
  | 0 => []
  | n + 1 => a :: rep a n
def upTo : Nat → List Nat
  | 0 => []
  | n + 1 => upTo n ++ [n]
/-- Packets: beats, prepares, promises; as cells, and as bytes. -/
def pkc (k i : Nat) : List AV := nI k :: (rep n0 7 ++ .str (ByteArray.mk #[]) :: (rep n0 5 ++ nl :: .bool false :: (rep n0 4 ++ nl :: nI i :: (rep n0 4 ++ nl :: (rep n0 6 ++ [nl, nl, nl])))))
def beatA : List AV := b8 7 :: rep (b8 0) 16
def prepA : List AV := b8 3 :: rep (b8 0) 8
def promA (i : Nat) : List AV := b8 4 :: (rep (b8 0) 8 ++ b8 i :: rep (b8 0) 33)
def beatB : List UInt8 := 7 :: rep 0 16
def prepB : List UInt8 := 3 :: rep 0 8
def promB (i : Nat) : List UInt8 := 4 :: (rep 0 8 ++ UInt8.ofNat i :: rep 0 33)
/-- What a replica may send. -/
def sentB (R : Nat) : List (List UInt8) := beatB :: prepB :: (upTo R).map promB
/-! ### Calls that are evaluated by themselves -/
def putE (k i nm : Nat) (bs : List AV) : EntF := ⟨230, [.agg (pkc k i)], [], [(.tup [.sl nm 0 bs.length none 1, n0], [(nm, .cells bs 5)])]⟩
def getE (k i : Nat) (bs : List AV) : EntF := ⟨154, [.sl 0 0 bs.length none 1], [.cells bs 5], [(.tup [.agg (pkc k i), n0], [])]⟩
def numE (k nm : Nat) : EntF := ⟨304, [.sl 0 0 k (some k) 1], [.cells (rep n0 k) 3], [(.sl nm 0 (8 * k) none 1, [(nm, .cells (rep (b8 0) (8 * k)) 5)])]⟩
def prS (i : Nat) : List AV := [sy i, n0, n0, n0, n0, nl]
def plan0 : AV := .agg [n0, n0, n0, n0, nl, n0, n0, n0]
def makeE (k : Nat) : EntF := ⟨331, [.sl 0 0 k none 6], [.cells ((upTo k).flatMap prS) 263], [(.tup [plan0, n0], []), (.tup [plan0, nI 1], [])]⟩
def mayE (i : Nat) : EntF := ⟨326, [.agg [nI i, n0, n0, n0, n0, nl]], [], [(.bool true, [])]⟩
def maysE : List EntF := (upTo 7).map mayE
def numsE : List EntF := [numE 1 2, numE 2 4, numE 4 8]
def putsE : List EntF := putE 7 0 22 beatA :: putE 3 0 22 prepA :: (upTo 7).map fun i => putE 4 i 4147 (promA i)
def getsE : List EntF := getE 7 0 beatA :: getE 3 0 prepA :: (upTo 7).map fun i => getE 4 i (promA i)
def makesE : List EntF := [makeE 1, makeE 2, makeE 3, makeE 4]
def insA (fi E : Nat) : Caller := fun f l S => bif Nat.beq f fi then (match l with
  | [.sl n 0 len none s, .int .i64 (.ofNat i), .sl m 0 1 cm s'] => (match S.get n, S.get m with
    | some (.cells cs E1), some (.cells ds E2) => bif (Nat.beq s 6 && (Nat.beq s' 6 && (Nat.beq E1 E && Nat.beq E2 E))) && ((Nat.ble (len * 6) cs.length && (Nat.ble 6 ds.length && (Nat.blt i len && Nat.ble len 1000000))) && ((!Nat.beq n m) && (freeName S && ((cs.take (len * 6)).all aone && (ds.take 6).all aone))))
      then some [(.sl S.next 0 (len + 1) none 6, ((S.put n .dead).put S.next (.cells ((cs.take (len * 6)).take (i * 6) ++ ds.take 6 ++ (cs.take (len * 6)).drop (i * 6)) E)).step (S.next + 1))] else none
    | _, _ => none)
  | _ => none) else none
/-- All that is looked up. -/
def byF (g : Nat) (a b : Caller) : Caller := fun f l S => bif Nat.beq f g then a f l S else b f l S
def allO : Caller := byF 230 (memo putsE) (byF 154 (memo getsE) (byF 331 (memo makesE) (byF 326 (memo maysE) (insA 329 263))))
/-- What is known of a setting: the symbols are Clients, Lease, Rho, Base, Cap, Beat, Wait, Sweep, Retry, Keep. -/
def btw (lo hi : Int) (i : Nat) : List (BT × Bool) := [(.leq (.lit lo) (.sym i), true), (.leq (.sym i) (.lit hi), true), (.lss (.sym i) (.lit lo), false), (.lss (.lit hi) (.sym i), false)]
def factsC : List (BT × Bool) := btw 1 8 0 ++ (btw 1 1000000 1 ++ (btw 0 200 2 ++ (btw 1 1000000 3 ++ (btw 1 1000000 4 ++ (btw 1 1000000 5 ++ (btw 0 1000000 6 ++ (btw 1 1000000 7 ++ (btw 1 1000000 8 ++ (btw 1 1000000 9 ++
  [(.leq (.sym 3) (.sym 4), true), (.lss (.sym 4) (.sym 3), false), (.eql (.sym 3) (.lit 0), false)])))))))))
/-! ### States -/
/-- Phase 0, told or not; phase 1, who was heard behind 0; phase 2. -/
inductive RSt where
  | p0 (told : Bool)
  | p1 (hs : List Nat)
  | p2
def confA (R : Nat) : List AV := [nI R, sy 0, sy 1, sy 2, sy 3, sy 4, sy 5, sy 6, sy 7, sy 8, sy 9]
def rootA (R id : Nat) (stamp : AV) (told : Bool) (at_ added : AV) : AO := .cells (confA R ++ [nI id, .ptr 1 0, .ptr 2 0, .ptr 3 0, .ptr 4 0, .ptr 5 0, .ptr 6 0, stamp, .bool told, at_, .bool false, n0, added, n0, nl, nl]) 146
def restA (R : Nat) (lead : List AV) (m : Nat) : List AO := [.cells [sy 10, sy 11, n0, n0] 216, .cells [n0, n0, nl] 237, .cells [nI R, n0, .map m] 248,
  .cells lead 232, .cells [sy 12, n0, n0, n0, n0, n0, n0, nl, nl, nl] 214, .cells [nl] 222]
def heardA (l : List AV) : AO := .cells (l.flatMap fun a => [a, n0, n0, n0, n0, nl]) 263
def quorum (R : Nat) : Nat := R / 2 + 1
def tmOf (R id : Nat) (s : RSt) : List AO := match s with
  | .p0 false => rootA R id .nilp false n0 n0 :: (restA R [nI R, n0, n0, nl, nl, n0, n0, n0, n0] 7 ++ [.map [] 0])
  | .p0 true => rootA R id .nilp true (sy 13) n0 :: (restA R [nI R, n0, n0, nl, nl, n0, n0, n0, n0] 7 ++ [.map [] 0])
  | .p1 hs => rootA R id .nilp true (sy 13) n0 :: (restA R [nI R, nI 1, n0, .sl 8 0 (hs.length + 1) none 6, nl, n0, n0, n0, n0] 7 ++ [.map [] 0, heardA (n0 :: hs.map nI)])
  | .p2 => rootA R id (.ptr 7 0) true (sy 13) (sy 15) :: (restA R [nI R, nI 2, n0, .sl 9 0 (quorum R) none 6, nl, nI 1, n0, n0, n0] 8 ++ [.cells [n0, sy 14, n0] 425, .map [] 0, heardA ((upTo (quorum R)).map fun i => sy (20 + i))])
def nEq : List Nat → List Nat → Bool
  | [], [] => true
  | a :: r, b :: s => Nat.beq a b && nEq r s
  | _, _ => false
def sEqR : RSt → RSt → Bool
  | .p0 a, .p0 b => bEq a b
  | .p1 a, .p1 b => nEq a b
  | .p2, .p2 => true
  | _, _ => false
def inSt (s : RSt) (l : List RSt) : Bool := l.any (sEqR s)
/-- Rising lists of so many numbers below R, above a. -/
def lists (R : Nat) : Nat → Nat → List (List Nat)
  | 0, _ => [[]]
  | k + 1, a => (upTo R).flatMap fun i => bif Nat.blt a i then (lists R k i).map (i :: ·) else []
def upLists (R : Nat) : Nat → List (List Nat)
  | 0 => []
  | k + 1 => upLists R k ++ lists R k 0
/-- All that a replica comes to. -/
def states (R id : Nat) : List RSt := match id with
  | 0 => .p0 false :: .p2 :: (upLists R (quorum R - 1)).map .p1
  | _ => [.p0 false, .p0 true]
def insS (j : Nat) : List Nat → List Nat
  | [] => [j]
  | i :: r => bif Nat.blt j i then j :: i :: r else bif Nat.beq i j then i :: r else i :: insS j r
/-- Where a step leads, and a promise. -/
def stepTo (R id : Nat) : RSt → List RSt
  | .p0 true => [.p0 true]
  | .p0 false => bif Nat.beq id 0 then (bif Nat.beq (quorum R) 1 then [.p2] else [.p1 []]) else [.p0 true]
  | s => [s]
def promTo (R j : Nat) : RSt → List RSt
  | .p1 hs => bif Nat.beq j 0 then [.p1 hs] else bif Nat.beq ((insS j hs).length + 1) (quorum R) then [.p1 hs, .p2] else [.p1 hs, .p1 (insS j hs)]
  | s => [s]
def tmsOf (R id : Nat) (l : List RSt) : List (List AO) := l.map (tmOf R id)
def argS (R id : Nat) (s : RSt) : AS := stT (tmOf R id s) []
/-- .. with a packet's bytes beside it: the name behind all others. -/
def argB (R id : Nat) (s : RSt) (bs : List AV) : AS := stT (tmOf R id s ++ [.cells bs 5]) []
def slB (R id : Nat) (s : RSt) (bs : List AV) : AV := .sl (tmOf R id s).length 0 bs.length none 1
/-- They are such states, too. -/
def subS (R id : Nat) (l : List RSt) : Bool := l.all fun s => inSt s (states R id)
section
variable (C : Caller)
def okStep (R id : Nat) (s : RSt) : Bool := chkS C 141 [.ptr 0 0, sy 100] (argS R id s) (tmsOf R id (stepTo R id s)) (sentB R) 20 && subS R id (stepTo R id s)
def okTake (R id : Nat) (s : RSt) (bs : List AV) (to : List RSt) : Bool := chkS C 146 [.ptr 0 0, sy 100, slB R id s bs, sy 101] (argB R id s bs) (tmsOf R id to) (sentB R) 20 && subS R id to
def okProm (R id : Nat) (s : RSt) (j : Nat) : Bool := okTake C R id s (promA j) (promTo R j s)
def okProms (R id : Nat) (s : RSt) (js : List Nat) : Bool := js.all (okProm C R id s)
def okBP (R id : Nat) (s : RSt) : Bool := okTake C R id s beatA [s] && okTake C R id s prepA [s]
def okNew (R id : Nat) (ks : List (BT × Bool)) : Bool := match C 39 [.agg (confA R), nI id] ⟨.nil, 0, 0, ks⟩ with
  | some [(.tup [.ptr n 0, .int .i64 (.ofNat 0)], S)] => (match matchT (tmOf R id (.p0 false)) n S with
    | some _ => true
    | none => false)
  | _ => false
def okGet (f R id : Nat) (r : AV) (s : RSt) : Bool := chkV C f [.ptr 0 0] (argS R id s) (tmOf R id s) r
def okGets (R id : Nat) (s : RSt) : Bool := okGet C 21 R id n0 s && (okGet C 22 R id n0 s && (okGet C 25 R id (.agg [n0, n0, n0, nl, nl, nl]) s && okGet C 26 R id nl s))
def okAll (R id : Nat) (s : RSt) : Bool := okStep C R id s && (okBP C R id s && (okGets C R id s && okProms C R id s (upTo R)))
def okSts (R id : Nat) (l : List RSt) : Bool := l.all (okAll C R id)
/-- A call of things that name nothing: all that comes of it is one of some. -/
def okPure (f : Nat) (l : List AV) (ks : List (BT × Bool)) (rs : List AV) : Bool := match C f l ⟨.nil, 0, 0, ks⟩ with
  | some outs => outs.all fun o => isNone (panV o.1) && rs.any (avEq o.1)
  | none => false
end
def noneO : Caller := fun _ _ _ => none
/-- Two of a list. -/
def twoOf {α : Type} (l : List α) (k : Nat) : List α := (l.drop (2 * k)).take 2
def zeroS : List AV := [n0, n0, n0, nl, nl, nl]
def zeroSnap : AV := .agg (n0 :: n0 :: n0 :: zeroS)
end Go.Proofs.YtgmmbdmdimkfjaaGreat
namespace Go.Proofs.YtgmmbdmdimkfjaaGreat
set_option linter.unusedSimpArgs false
set_option linter.unusedVariables false
open Go.V Go.RowKit Go.ChangeShapes Go.WideShapes
/-- A name given up for a new one, whose block is the same or new. -/
theorem RW.move {U : Nat → Prop} {w0 w w' : World} {A : NM} {S : AS} {n k b b' z z' E : Nat} {o : AO} {cs : List AV} {c : Array Value} (H : RW U w0 A S w) (hn : S.get n = some o) (hd : o ≠ .dead) (hA : A n = some (b, 0, z)) (hk : S.free k) (e : Ext (fun x => x = b) w w')
    (hb : b' = b ∨ w.heap.size ≤ b') (hlt : b' < w'.heap.size) (hO : w'.heap[b']? = some (.cells c E (0, 0))) (hsz : c.size = z') (hl : cs.length ≤ z') (hc : RVs A cs (c.toList.take cs.length)) :
    A.le (A.put k (b', 0, z')) ∧ RW U w0 (A.put k (b', 0, z')) ((S.put n .dead).put k (.cells cs E)) w' := by
  have hle := names_new H hk (b', 0, z')
  have hold : ∀ m x, m ≠ k → (A.put k (b', 0, z')) m = some x → A m = some x := by
    intro m x hm h; simpa only [NM.put, if_neg hm] using h
  have hkn : k ≠ n := by rintro rfl; rw [hk.2] at hn; cases hn
  have hg : ∀ m, ((S.put n .dead).put k (.cells cs E)).get m = if m = k then some (.cells cs E) else if m = n then some .dead else S.get m := by
    intro m; rw [AS.get_put, AS.get_put]
  have hab := H.above n b 0 z hA
  have hdead : ∀ m x q y o1, m ≠ k → A m = some (x, q, y) → x = b' → ((S.put n .dead).put k (.cells cs E)).get m = some o1 → o1 = .dead := by
    intro m x q y o1 hm h hx h1
    subst hx
    rw [hg, if_neg hm] at h1
    split at h1
    · cases h1; rfl
    · rename_i hmn
      rcases hb with hb | hb
      · subst hb
        rcases H.apart m n x q y 0 z o1 _ hmn h hA h1 hn with h' | h'
        · exact h'
        · exact absurd h' hd
      · have := (H.above m x q y h).2
        omega
  refine ⟨hle, ⟨?_, ?_, ?_, ?_, ?_, H.facts, ?_⟩⟩
  · refine ⟨e.os.trans H.ext.os, e.tape.trans H.ext.tape, e.output.trans H.ext.output, Nat.le_trans H.ext.size e.size, fun x hx hu => ?_⟩
    rw [e.block x (Nat.lt_of_lt_of_le hx H.ext.size) ?_]
    · exact H.ext.block x hx hu
    · rintro rfl
      rcases hab.1 with h | h
      · exact hu h
      · omega
  · intro m hm
    obtain ⟨h1, h2⟩ := hm
    rw [hg] at h2
    split at h2
    · cases h2
    · rename_i hmk
      split at h2
      · cases h2
      · simp only [NM.put, if_neg hmk]
        exact H.fresh m ⟨h1, h2⟩
  · intro m x q y hm
    by_cases hmk : m = k
    · subst hmk
      simp only [NM.put, if_true] at hm
      cases hm
      refine ⟨?_, hlt⟩
      rcases hb with hb | hb
      · rw [hb]; exact hab.1
      · exact .inr (Nat.le_trans H.ext.size hb)
    · have := H.above m x q y (hold m _ hmk hm)
      exact ⟨this.1, Nat.lt_of_lt_of_le this.2 e.size⟩
  · intro m o' hm
    rw [hg] at hm
    split at hm
    · rename_i hmk
      subst hmk
      cases hm
      exact ⟨b', 0, z', c, by simp [NM.put], hO, by omega, hl, by simpa using RVs.up hle _ _ hc⟩
    · rename_i hmk
      split at hm
      · cases hm; trivial
      · rename_i hmn
        by_cases hdd : o' = .dead
        · subst hdd; trivial
        · refine (H.obj m o' hm).up hle fun x q y hx => e.block x (H.above m x q y hx).2 ?_
          rintro rfl
          rcases H.apart m n _ q y 0 z o' _ hmn hx hA hm hn with h' | h'
          · exact hdd h'
          · exact hd h'
  · intro m j x q y r u o1 o2 hmj hm hj h1 h2
    by_cases hmk : m = k
    · subst hmk
      simp only [NM.put, if_true] at hm
      cases hm
      exact .inr (hdead j _ r u o2 (Ne.symm hmj) (hold j _ (Ne.symm hmj) hj) rfl h2)
    · by_cases hjk : j = k
      · subst hjk
        simp only [NM.put, if_true] at hj
        cases hj
        exact .inl (hdead m _ q y o1 hmk (hold m _ hmk hm) rfl h1)
      · rw [hg, if_neg hmk] at h1
        rw [hg, if_neg hjk] at h2
        split at h1
        · cases h1; exact .inl rfl
        · split at h2
          · cases h2; exact .inr rfl
          · exact H.apart m j x q y r u o1 o2 hmj (hold m _ hmk hm) (hold j _ hjk hj) h1 h2
  · intro m x q y hm
    by_cases hmk : m = k
    · subst hmk
      simp only [NM.put, if_true] at hm
      cases hm; rfl
    · exact H.zero m x q y (hold m _ hmk hm)
theorem r6s : ∀ (n : Nat) (vs : List Value), vs.length = n * 6 → ∃ xs : List R6, xs.length = n ∧ flat xs = vs
  | 0, vs, h => ⟨[], rfl, by rw [List.eq_nil_of_length_eq_zero (by omega : vs.length = 0)]; rfl⟩
  | n + 1, vs, h => by
    obtain ⟨xs, h1, h2⟩ := r6s n (vs.drop 6) (by rw [List.length_drop]; omega)
    refine ⟨⟨vs.take 6, by rw [List.length_take]; omega⟩ :: xs, by simp [h1], ?_⟩
    rw [flat_cons, h2]
    exact List.take_append_drop 6 vs
theorem r6_ones {xs : List R6} (h : ∀ u ∈ flat xs, oneC u = true) : Ones xs := fun x hx => List.all_eq_true.2 fun u hu => h u (List.mem_flatMap.2 ⟨x, hx, hu⟩)
theorem insA_ok {U : Nat → Prop} {w0 : World} : CallsOK Tryz.prog U w0 (insA 329 263) := by
  intro f l S outs h
  unfold insA at h
  cases hf : Nat.beq f 329 with
  | false => rw [hf] at h; cases h
  | true =>
    rw [hf, cond_true] at h
    have := beqT hf; subst this
    refine ⟨Tryz.call329, fun A ls w hl H => ?_⟩
    split at h
    · rename_i n len s i m cm s'
      split at h
      · rename_i cs E1 ds E2 hn hm
        cases hb : ((Nat.beq s 6 && (Nat.beq s' 6 && (Nat.beq E1 263 && Nat.beq E2 263))) && ((Nat.ble (len * 6) cs.length && (Nat.ble 6 ds.length && (Nat.blt i len && Nat.ble len 1000000))) && ((!Nat.beq n m) && (freeName S && ((cs.take (len * 6)).all aone && (ds.take 6).all aone))))) with
        | false => rw [hb] at h; cases h
        | true =>
          rw [hb] at h
          cases h
          simp only [Bool.and_eq_true, Bool.not_eq_true'] at hb
          obtain ⟨⟨b1, b2, b3, b4⟩, ⟨b5, b6, b7, b8⟩, b9, b10, b11, b12⟩ := hb
          have b1 := beqT b1
          have b2 := beqT b2
          have b3 := beqT b3
          have b4 := beqT b4
          subst b1; subst b2; subst b3; subst b4
          have b5 := Nat.le_of_ble_eq_true b5
          have b6 := Nat.le_of_ble_eq_true b6
          have b7 : i < len := Nat.le_of_ble_eq_true b7
          have b8 := Nat.le_of_ble_eq_true b8
          have b9 := beqF b9
          have hfree := freeName_ok b10
          simp only [RVs, RV] at hl
          obtain ⟨v1, t1, rfl, ⟨b, p, z, c, hA, rfl, hc1, hc2, hc3, _, hc4⟩, v2, t2, rfl, rfl, v3, t3, rfl, ⟨b', p', z', c', hA', rfl, hd1, hd2, hd3, _, hd4⟩, rfl⟩ := hl
          have hp := H.zero n b p z hA
          have hp' := H.zero m b' p' z' hA'
          subst hp; subst hp'
          have hcz : c * 6 = z := by
            rcases hc4 with hc4 | ⟨_, hc4⟩
            · cases hc4
            · omega
          obtain ⟨_, _, _, ca, hA1, hw1, hs1, hl1, hr1⟩ := H.obj n _ hn
          rw [hA] at hA1; cases hA1
          obtain ⟨_, _, _, da, hA2, hw2, hs2, hl2, hr2⟩ := H.obj m _ hm
          rw [hA'] at hA2; cases hA2
          rw [List.drop_zero] at hr1 hr2
          have hbb : b' ≠ b := by
            rintro rfl
            rcases H.apart n m b' 0 z 0 z' _ _ b9 hA hA' hn hm with e | e <;> cases e
          -- what is there, and what comes
          have hr3 := hr1.take (len * 6)
          rw [List.take_take, Nat.min_eq_left b5] at hr3
          have hr4 := hr2.take 6
          rw [List.take_take, Nat.min_eq_left b6] at hr4
          have hlen3 := hr3.length
          have hlen4 := hr4.length
          rw [List.length_take, List.length_take, Nat.min_eq_left b5] at hlen3
          rw [List.length_take, List.length_take, Nat.min_eq_left b6] at hlen4
          obtain ⟨xs, hx1, hx2⟩ := r6s len (ca.toList.take (len * 6)) (by rw [List.length_take]; omega)
          have hones : Ones xs := r6_ones (by rw [hx2]; exact aones_ok b11 hr3)
          have hOw : Ow 263 w (.slice (some ⟨b, 0, none⟩) len c) xs (some b) := by
            refine ⟨⟨by rw [hx2, hx1, List.length_take]; show min (len * 6) ca.toList.length = len * 6; omega, .inr ⟨b, c, ca, rfl, by rw [hx1], hw1, by rw [hx1]; exact hc1, hc2, ?_, ?_⟩⟩, hones⟩
            · show ca.size = c * 6; omega
            · rw [hx1, hx2]; rfl
          have hy : Blk w b' 263 da.toList := by
            show w.heap[b']? = _
            rw [hw2]
          have hyl : (da.toList.take 6).length = 6 := by rw [List.length_take]; omega
          refine Calls.mono (InsP_c (y := ⟨da.toList.take 6, hyl⟩) i w hOw hy (by rfl) (List.all_eq_true.2 (aones_ok b12 hr4)) hd1 hd2 (by intro e; cases e; exact hbb rfl) (by rw [hx1]; exact b7) (by rw [hx1]; exact b8)) ?_
          rintro en w' ⟨v', g', rfl, K⟩
          have hK := K.val.1 _ (List.mem_singleton.2 rfl)
          have hKO : Ow 263 w' v' (xs.take i ++ [⟨da.toList.take 6, hyl⟩] ++ xs.drop i) g' := hK.holds
          obtain ⟨⟨k1, k2⟩, _⟩ := hKO
          have hxl : (xs.take i ++ [(⟨da.toList.take 6, hyl⟩ : R6)] ++ xs.drop i).length = len + 1 := by
            simp only [List.length_append, List.length_take, List.length_singleton, List.length_drop, hx1]; omega
          rw [hxl] at k1 k2
          rcases k2 with ⟨_, _, k2⟩ | ⟨bb, cap', cur, rfl, rfl, k3, k4, k5, k6, k7⟩
          · omega
          · have hown := hK.own trivial bb rfl
            have hlt := hK.lt bb rfl
            have k6' : cur.size = cap' * 6 := k6
            have k7' : cur.toList.take ((len + 1) * 6) = flat (xs.take i ++ [⟨da.toList.take 6, hyl⟩] ++ xs.drop i) := k7
            have hfl : flat (xs.take i ++ [(⟨da.toList.take 6, hyl⟩ : R6)] ++ xs.drop i) = (ca.toList.take (len * 6)).take (i * 6) ++ da.toList.take 6 ++ (ca.toList.take (len * 6)).drop (i * 6) := by
              rw [flat_app, flat_app, flat_take, flat_drop, hx2, flat_cons, flat_nil, List.append_nil]; rfl
            have hncl : ((cs.take (len * 6)).take (i * 6) ++ ds.take 6 ++ (cs.take (len * 6)).drop (i * 6)).length = (len + 1) * 6 := by
              simp only [List.length_append, List.length_take, List.length_drop]; omega
            have hm4 : (len + 1) * 6 ≤ cap' * 6 := Nat.mul_le_mul_right _ k4
            obtain ⟨g1, g2⟩ := RW.move (k := S.next) (b' := bb) (z' := cap' * 6) (c := cur) (cs := (cs.take (len * 6)).take (i * 6) ++ ds.take 6 ++ (cs.take (len * 6)).drop (i * 6)) H hn (by simp) hA hfree (K.ext.mono fun x hx => by cases hx; rfl) (hown.imp (fun e => by cases e; rfl) id) hlt k3 k6' (by rw [hncl]; exact hm4) (by
                rw [hncl, k7', hfl]
                exact ((hr3.take (i * 6)).app hr4).app (hr3.drop (i * 6)))
            refine ⟨_, List.mem_singleton.2 rfl, _, g1, .inl ⟨_, rfl, ?_⟩, g2.step _⟩
            simp only [RV]
            exact ⟨bb, 0, cap' * 6, cap', by simp [NM.put], rfl, k4, k5, by omega, by omega, .inr ⟨trivial, by omega⟩⟩
      · cases h
    · cases h
end Go.Proofs.YtgmmbdmdimkfjaaGreat
