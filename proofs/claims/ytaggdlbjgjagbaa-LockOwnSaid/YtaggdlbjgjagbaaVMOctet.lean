/-
  Plain mathematics of layer 1: what numbers, bytes and texts are put as, and what is read. No program here.
-/
import Derived.Test.YtaggdlbjgjagbaaVSlice
namespace Go.V
set_option linter.unusedSimpArgs false
set_option linter.unusedVariables false

def Bs (F : Nat → Prop) (w : World) (v : Value) (xs : List UInt8) : Prop := Sl F w v xs.length (xs.map u8v)
def New (w : World) : Nat → Prop := fun b => w.heap.size ≤ b
theorem Bs.up {F W : Nat → Prop} {w w' : World} {v : Value} {xs : List UInt8} (h : Bs F w v xs) (e : Ext W w w') (hd : ∀ b, F b → ¬ W b) : Bs F w' v xs := Sl.up h e hd
theorem Bs.up0 {F : Nat → Prop} {w w' : World} {v : Value} {xs : List UInt8} (h : Bs F w v xs) (e : Ext0 w w') : Bs F w' v xs := Sl.up0 h e
theorem Bs.nil {F : Nat → Prop} {w : World} : Bs F w (.slice none 0 0) [] := Sl.nil
/-- The cell of a byte. -/
theorem Bs.cell {F : Nat → Prop} {w : World} {v : Value} {xs : List UInt8} (h : Bs F w v xs) : ∃ ao cap, v = .slice ao xs.length cap ∧ xs.length ≤ cap ∧ cap ≤ 9223372036854775807 ∧
    (xs = [] ∨ ∃ b o, ao = some ⟨b, o, none⟩ ∧ F b ∧ ∀ i : Nat, i < xs.length → w.cell? ⟨b, o + i * 1, none⟩ = some (.int .u8 (xs.getD i 0).toNat)) := by
  obtain ⟨ao, cap, rfl, h1, h2, h3⟩ := h
  refine ⟨ao, cap, rfl, h1, by simpa [maxLen] using h2, ?_⟩
  rcases h3 with h3 | ⟨b, o, rfl, hF, hc⟩
  · exact .inl (by simpa using h3)
  · refine .inr ⟨b, o, rfl, hF, fun i hi => ?_⟩
    rw [Nat.mul_one]
    exact hc.get i _ (by simp [hi, u8v])

/-- A number's eight bytes, the highest first. -/
def eight (n : Nat) : List UInt8 := (List.range 8).map fun j => UInt8.ofNat (n / 256 ^ (7 - j))
/-- The number that bytes are, the highest first. -/
def be (l : List UInt8) : Nat := l.foldl (fun a c => a * 256 + c.toNat) 0

theorem eight_len (n : Nat) : (eight n).length = 8 := by simp [eight]
theorem eight_get (n j : Nat) (h : j < 8) : (eight n).getD j 0 = UInt8.ofNat (n / 256 ^ (7 - j)) := by
  simp [eight, h]
theorem eight_eq (n : Nat) : eight n = [UInt8.ofNat (n / 72057594037927936), UInt8.ofNat (n / 281474976710656), UInt8.ofNat (n / 1099511627776), UInt8.ofNat (n / 4294967296), UInt8.ofNat (n / 16777216), UInt8.ofNat (n / 65536), UInt8.ofNat (n / 256), UInt8.ofNat n] := by
  simp [eight, List.range_succ]
theorem be_eight (n : Nat) (h : n < 18446744073709551616) : be (eight n) = n := by
  rw [eight_eq]
  simp only [be, List.foldl_cons, List.foldl_nil, UInt8.toNat_ofNat']
  omega
theorem be_lt (l : List UInt8) : be l < 256 ^ l.length := by
  suffices H : ∀ (l : List UInt8) (a k : Nat), a < 256 ^ k → l.foldl (fun a c => a * 256 + c.toNat) a < 256 ^ (k + l.length) from by
    have := H l 0 0 (by simp); simpa [be] using this
  intro l
  induction l with
  | nil => intro a k h; simpa using h
  | cons c r ih =>
    intro a k h
    have hc : c.toNat < 256 := UInt8.toNat_lt c
    have := ih (a * 256 + c.toNat) (k + 1) (by rw [Nat.pow_succ]; omega)
    simpa [Nat.add_assoc, Nat.add_comm 1] using this
theorem be_snoc (l : List UInt8) (c : UInt8) : be (l ++ [c]) = be l * 256 + c.toNat := by simp [be]

/-- The cells of PutNum's array behind i rounds. -/
def pn (n i : Nat) : List Value := (List.range 8).map fun j => if j < i then u8v (UInt8.ofNat (n / 256 ^ (7 - j))) else .int .u8 0
theorem pn_len (n i : Nat) : (pn n i).length = 8 := by simp [pn]
theorem pn_zero (n : Nat) : pn n 0 = List.replicate 8 (.int .u8 0) := by simp [pn, List.range_succ, List.replicate]
theorem pn_eight (n : Nat) : pn n 8 = (eight n).map u8v := by simp [pn, eight, List.range_succ]
theorem pn_set (n i : Nat) (h : i < 8) (v : Int) (hv : v = ((UInt8.ofNat (n / 256 ^ (7 - i))).toNat : Int)) : (pn n i).set i (.int .u8 v) = pn n (i + 1) := by
  subst hv
  apply List.ext_getElem?
  intro j
  simp only [pn, List.getElem?_set, List.getElem?_map, List.length_map, List.length_range, h, if_true]
  by_cases e : i = j
  · subst e; simp [h, u8v]
  · rw [if_neg e]
    by_cases hj : j < 8
    · simp only [List.getElem?_range hj, Option.map_some]
      by_cases h2 : j < i
      · rw [if_pos h2, if_pos (by omega)]
      · rw [if_neg h2, if_neg (by omega)]
    · simp [List.getElem?_eq_none, hj]
/-- .. of the document's, from behind. -/
def pe (n i : Nat) : List Value := (List.range 8).map fun j => if i ≤ j then u8v (UInt8.ofNat (n / 256 ^ (7 - j))) else .int .u8 0
theorem pe_len (n i : Nat) : (pe n i).length = 8 := by simp [pe]
theorem pe_eight (n : Nat) : pe n 8 = List.replicate 8 (.int .u8 0) := by simp [pe, List.range_succ, List.replicate]
theorem pe_zero (n : Nat) : pe n 0 = (eight n).map u8v := by simp [pe, eight, List.range_succ]
theorem pe_set (n i : Nat) (h : i < 8) (v : Int) (hv : v = ((UInt8.ofNat (n / 256 ^ (7 - i))).toNat : Int)) : (pe n (i + 1)).set i (.int .u8 v) = pe n i := by
  subst hv
  apply List.ext_getElem?
  intro j
  simp only [pe, List.getElem?_set, List.getElem?_map, List.length_map, List.length_range, h, if_true]
  by_cases e : i = j
  · subst e; simp [h, u8v]
  · rw [if_neg e]
    by_cases hj : j < 8
    · simp only [List.getElem?_range hj, Option.map_some]
      by_cases h2 : i ≤ j
      · rw [if_pos h2, if_pos (by omega)]
      · rw [if_neg h2, if_neg (by omega)]
    · simp [List.getElem?_eq_none, hj]

theorem Bs.ofBlk {F : Nat → Prop} {w : World} {b E n cap : Nat} {xs : List UInt8} (h : Blk w b E (xs.map u8v)) (hF : F b) (hn : n = xs.length) (hc : n ≤ cap) (hm : cap ≤ 9223372036854775807) : Bs F w (.slice (some ⟨b, 0, none⟩) n cap) xs := by
  subst hn
  exact ⟨_, _, rfl, hc, by simpa [maxLen] using hm, .inr ⟨b, 0, rfl, hF, h.cellsAll⟩⟩
theorem byte_at (n i : Int) (h0 : 0 ≤ n) (h1 : 0 ≤ i) (h2 : i ≤ 7) : IntKind.u8.wrap (n / 2 ^ (8 * (7 - i)).toNat) = ((UInt8.ofNat (n.toNat / 256 ^ (7 - i.toNat))).toNat : Int) := by
  obtain ⟨a, rfl⟩ := Int.eq_ofNat_of_zero_le h0
  rw [IntKind.wrap_u8, UInt8.toNat_ofNat']
  have : i = 0 ∨ i = 1 ∨ i = 2 ∨ i = 3 ∨ i = 4 ∨ i = 5 ∨ i = 6 ∨ i = 7 := by omega
  rcases this with rfl | rfl | rfl | rfl | rfl | rfl | rfl | rfl <;> simp <;> omega
theorem byte_sh (n m i : Int) (h0 : 0 ≤ n) (h1 : 0 ≤ i) (h2 : i ≤ 7) (hm : m = n / 256 ^ (7 - i.toNat)) : IntKind.u8.wrap m = ((UInt8.ofNat (n.toNat / 256 ^ (7 - i.toNat))).toNat : Int) := by
  subst hm
  obtain ⟨a, rfl⟩ := Int.eq_ofNat_of_zero_le h0
  rw [IntKind.wrap_u8, UInt8.toNat_ofNat']
  have : i = 0 ∨ i = 1 ∨ i = 2 ∨ i = 3 ∨ i = 4 ∨ i = 5 ∨ i = 6 ∨ i = 7 := by omega
  rcases this with rfl | rfl | rfl | rfl | rfl | rfl | rfl | rfl <;> simp <;> omega
theorem shr_step (n i : Int) (h1 : 0 ≤ i) (h2 : i ≤ 7) : n / 256 ^ (7 - i.toNat) / 2 ^ (8 : Int).toNat = n / 256 ^ (8 - i.toNat) := by
  have : i = 0 ∨ i = 1 ∨ i = 2 ∨ i = 3 ∨ i = 4 ∨ i = 5 ∨ i = 6 ∨ i = 7 := by omega
  rcases this with rfl | rfl | rfl | rfl | rfl | rfl | rfl | rfl <;> simp <;> omega
theorem be_or (a : Nat) (c : UInt8) (h : a < 72057594037927936) : bits .or .u64 (IntKind.u64.wrap ((a : Int) * 2 ^ (8 : Int).toNat)) (c.toNat : Int) = ((a * 256 + c.toNat : Nat) : Int) := by
  have hc : c.toNat < 256 := UInt8.toNat_lt c
  rw [IntKind.wrap_u64, show ((a : Int) * 2 ^ (8 : Int).toNat) % 18446744073709551616 = ((a * 256 : Nat) : Int) from by simp; omega]
  rw [u64_or_nat _ _ (by omega) (by omega)]
  congr 1
  have := Nat.two_pow_add_eq_or_of_lt (i := 8) (b := c.toNat) (by simpa using hc) a
  rw [show a * 256 = 2 ^ 8 * a from by omega, this]
theorem be_orI (a : Nat) (c : UInt8) (h : a < 36028797018963968) : bits .or .i64 (IntKind.i64.wrap ((a : Int) * 2 ^ (8 : Int).toNat)) (c.toNat : Int) = ((a * 256 + c.toNat : Nat) : Int) := by
  have hc : c.toNat < 256 := UInt8.toNat_lt c
  rw [IntKind.wrap_i64, show ((a : Int) * 2 ^ (8 : Int).toNat + 9223372036854775808) % 18446744073709551616 - 9223372036854775808 = ((a * 256 : Nat) : Int) from by simp; omega]
  have hor : (a * 256) ||| c.toNat = a * 256 + c.toNat := by
    have := Nat.two_pow_add_eq_or_of_lt (i := 8) (b := c.toNat) (by simpa using hc) a
    rw [show a * 256 = 2 ^ 8 * a from by omega, this]
  have hlt : (a * 256) ||| c.toNat < 9223372036854775808 := by rw [hor]; omega
  show IntKind.i64.wrap (((BitVec.ofInt 64 ((a * 256 : Nat) : Int) ||| BitVec.ofInt 64 (c.toNat : Int) : BitVec 64).toNat : Nat) : Int) = _
  rw [BitVec.ofInt_natCast, BitVec.ofInt_natCast, BitVec.toNat_or, BitVec.toNat_ofNat, BitVec.toNat_ofNat, Nat.mod_eq_of_lt (by omega), Nat.mod_eq_of_lt (by omega), hor, IntKind.wrap_i64]
  omega

theorem be_step (xs : List UInt8) (a i : Nat) (h : a + i < xs.length) : be ((xs.drop a).take i) * 256 + (xs.getD (a + i) 0).toNat = be ((xs.drop a).take (i + 1)) := by
  rw [List.take_succ_eq_append_getElem (by simp; omega), be_snoc]
  congr 2
  simp [List.getElem?_eq_getElem h]
theorem be_step0 (ys : List UInt8) (i : Nat) (h : i < ys.length) : be (ys.take i) * 256 + (ys.getD i 0).toNat = be (ys.take (i + 1)) := by
  have := be_step ys 0 i (by omega)
  simpa using this
theorem be_mono (xs : List UInt8) : ∀ (i j : Nat), i ≤ j → be (xs.take i) ≤ be (xs.take j) * 1 := by
  intro i j h
  rw [Nat.mul_one]
  induction j with
  | zero => rw [show i = 0 from by omega]; exact Nat.le_refl _
  | succ j ih =>
    rcases Nat.lt_or_ge j xs.length with hj | hj
    · by_cases e : i = j + 1
      · subst e; exact Nat.le_refl _
      · rw [List.take_succ_eq_append_getElem hj, be_snoc]
        have := ih (by omega)
        omega
    · by_cases e : i = j + 1
      · subst e; exact Nat.le_refl _
      · rw [show xs.take (j + 1) = xs.take j from by rw [List.take_of_length_le (by omega), List.take_of_length_le (by omega)]]
        exact ih (by omega)
/-- Where the first byte is below 64. -/
theorem first_lt' (l : List UInt8) (i : Nat) (h : (l.getD 0 0).toNat < 64) (hi : i ≤ 7) : be (l.take i) < 64 * 256 ^ 6 := by
  cases l with
  | nil => simp [be]
  | cons c r =>
    cases i with
    | zero => simp [be]
    | succ i =>
      have : ∀ (l : List UInt8) (a k : Nat), a < 64 * 256 ^ k → l.foldl (fun a c => a * 256 + c.toNat) a < 64 * 256 ^ (k + l.length) := by
        intro l
        induction l with
        | nil => intro a k h; simpa using h
        | cons c r ih =>
          intro a k h
          have hc : c.toNat < 256 := UInt8.toNat_lt c
          have := ih (a * 256 + c.toNat) (k + 1) (by rw [Nat.pow_succ]; omega)
          simpa [Nat.add_assoc, Nat.add_comm 1] using this
      have h1 := this (r.take i) c.toNat 0 (by simpa using h)
      have hle : (r.take i).length ≤ 6 := by simp; omega
      have hp : 256 ^ (0 + (r.take i).length) ≤ 256 ^ 6 := Nat.pow_le_pow_right (by omega) (by omega)
      have : be ((c :: r).take (i + 1)) = (r.take i).foldl (fun a c => a * 256 + c.toNat) c.toNat := by simp [be]
      rw [this]
      exact Nat.lt_of_lt_of_le h1 (Nat.mul_le_mul_left _ hp)

theorem be_first (l : List UInt8) (h : l.length = 8) : ((l.getD 0 0).toNat < 64 → be l < 4611686018427387904) ∧ (64 ≤ (l.getD 0 0).toNat → 4611686018427387904 ≤ be l) := by
  match l, h with
  | [a, b, c, d, e, f, g, i], _ =>
    simp only [be, List.foldl_cons, List.foldl_nil, List.getD_cons_zero]
    have := UInt8.toNat_lt a
    have := UInt8.toNat_lt b
    have := UInt8.toNat_lt c
    have := UInt8.toNat_lt d
    have := UInt8.toNat_lt e
    have := UInt8.toNat_lt f
    have := UInt8.toNat_lt g
    have := UInt8.toNat_lt i
    omega

/-! ### What the layer computes -/
def putNumM (n : Int) : List UInt8 × Int := if 0 ≤ n ∧ n < 4611686018427387904 then (eight n.toNat, 0) else ([], 1)
def putByteM (n : Int) : List UInt8 × Int := if 0 ≤ n ∧ n < 256 then ([UInt8.ofNat n.toNat], 0) else ([], 1)
def putTextM (s : List UInt8) : List UInt8 × Int := if s.length < 256 then (UInt8.ofNat s.length :: s, 0) else ([], 3)
def roomM (xs : List UInt8) (at_ n : Int) : Prop := 0 ≤ at_ ∧ at_ ≤ xs.length ∧ n ≤ xs.length - at_
instance (xs : List UInt8) (at_ n : Int) : Decidable (roomM xs at_ n) := by unfold roomM; infer_instance
def numM (xs : List UInt8) (at_ : Int) : Int × Int × Int :=
  if roomM xs at_ 8 then (if (xs.getD at_.toNat 0).toNat < 64 then ((be ((xs.drop at_.toNat).take 8) : Int), at_ + 8, 0) else (0, 0, 4)) else (0, 0, 2)
def byteM (xs : List UInt8) (at_ : Int) : Int × Int × Int :=
  if roomM xs at_ 1 then (((xs.getD at_.toNat 0).toNat : Int), at_ + 1, 0) else (0, 0, 2)
def textM (xs : List UInt8) (at_ most : Int) : List UInt8 × Int × Int :=
  if (byteM xs at_).2.2 ≠ 0 then ([], 0, 2) else
  if most < (byteM xs at_).1 then ([], 0, 3) else
  if roomM xs (at_ + 1) (byteM xs at_).1 then ((xs.drop (at_.toNat + 1)).take (byteM xs at_).1.toNat, at_ + 1 + (byteM xs at_).1, 0) else ([], 0, 2)
def endM (xs : List UInt8) (at_ : Int) : Int := if at_ < 0 ∨ (xs.length : Int) < at_ then 2 else if at_ < xs.length then 3 else 0
end Go.V
