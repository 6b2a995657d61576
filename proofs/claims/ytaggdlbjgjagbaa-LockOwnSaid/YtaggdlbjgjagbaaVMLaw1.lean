/-
  Plain mathematics of layer 1's laws: the order of numbers' bytes; a number put is read as it was. No program here.
-/
import Derived.Test.YtaggdlbjgjagbaaVLawA
namespace Go.V
set_option linter.unusedSimpArgs false
set_option linter.unusedVariables false
open Go.RowKit

/-- Behind an append to a slice of ours nothing older is changed, and what it gives is ours. -/
theorem appN {w0 w w' : World} {g g' : Option Nat} (e : Ext0 w0 w) (hE : Ext (fun b => g = some b) w w') (hg : ∀ b, g = some b → w0.heap.size ≤ b) (hG : ∀ b, g' = some b → g = some b ∨ w.heap.size ≤ b) :
    Ext0 w0 w' ∧ (∀ b, g' = some b → w0.heap.size ≤ b) :=
  ⟨e.transN hE hg, fun b h => (hG b h).elim (hg b) (fun h => Nat.le_trans e.size h)⟩

theorem Bs.src {P : Program} {F : Nat → Prop} {w : World} {v : Value} {xs : List UInt8} (h : Bs F w v xs) : Src P 1 w v xs.length (xs.map u8v) :=
  Src.slice h (by simp) (by simp [u8v, oneC])

theorem be_fold (l : List UInt8) : ∀ a : Nat, l.foldl (fun a c => a * 256 + c.toNat) a = a * 256 ^ l.length + be l := by
  induction l with
  | nil => intro a; simp [be]
  | cons c r ih =>
    intro a
    simp only [List.foldl_cons, List.length_cons, ih (a * 256 + c.toNat)]
    simp only [Nat.pow_succ, Nat.add_mul, Nat.zero_mul, Nat.zero_add]
    rw [Nat.mul_assoc a 256, Nat.mul_comm 256 (256 ^ r.length)]
    show _ = _ + List.foldl (fun a c => a * 256 + c.toNat) 0 (c :: r)
    simp only [List.foldl_cons, Nat.zero_mul, Nat.zero_add, ih c.toNat]
    omega
theorem be_cons (c : UInt8) (r : List UInt8) : be (c :: r) = c.toNat * 256 ^ r.length + be r := by
  rw [be, List.foldl_cons, be_fold]; simp
theorem bytesLess_be : ∀ (l m : List UInt8), l.length = m.length → Op.bytesLess l m = decide (be l < be m)
  | [], [], _ => by simp [Op.bytesLess]
  | a :: x, b :: y, h => by
    have hl : x.length = y.length := by simpa using h
    have ih := bytesLess_be x y hl
    have hx := be_lt x
    have hy := be_lt y
    rw [← hl] at hy
    rw [Op.bytesLess, ih, be_cons, be_cons, ← hl, Bool.eq_iff_iff]
    simp only [Bool.or_eq_true, Bool.and_eq_true, decide_eq_true_eq, beq_iff_eq]
    rw [UInt8.lt_iff_toNat_lt]
    have hab : a = b ↔ a.toNat = b.toNat := UInt8.toNat_inj.symm
    rw [hab]
    generalize 256 ^ x.length = p at *
    generalize a.toNat = m, b.toNat = n, be x = u, be y = v at *
    rcases Nat.lt_trichotomy m n with h | h | h
    · have : (m + 1) * p ≤ n * p := Nat.mul_le_mul_right _ h
      rw [Nat.add_mul] at this
      constructor
      · intro _; omega
      · intro _; exact .inl h
    · subst h; omega
    · have : (n + 1) * p ≤ m * p := Nat.mul_le_mul_right _ h
      rw [Nat.add_mul] at this
      constructor
      · intro h; omega
      · intro _; omega
theorem less_eight (a b : Int) (ha : 0 ≤ a) (ha2 : a < 4611686018427387904) (hb : 0 ≤ b) (hb2 : b < 4611686018427387904) :
    Op.bytesLess (⟨(eight a.toNat).toArray⟩ : ByteArray).toList (⟨(eight b.toNat).toArray⟩ : ByteArray).toList = decide (a < b) := by
  rw [ByteArray.toList_eq, ByteArray.toList_eq]
  simp only []
  rw [bytesLess_be _ _ (by rw [eight_len, eight_len]), be_eight _ (by omega), be_eight _ (by omega), decide_eq_decide]
  omega
theorem eight_inj (a b : Int) (ha : 0 ≤ a) (ha2 : a < 4611686018427387904) (hb : 0 ≤ b) (hb2 : b < 4611686018427387904) :
    decide (eight a.toNat = eight b.toNat) = decide (a = b) := by
  rw [decide_eq_decide]
  constructor
  · intro h
    have := congrArg be h
    rw [be_eight _ (by omega), be_eight _ (by omega)] at this
    omega
  · rintro rfl; rfl

/-- A number that stands behind other bytes is read. -/
theorem numM_app (pre post : List UInt8) (n : Int) (h0 : 0 ≤ n) (h1 : n < 4611686018427387904) :
    numM (pre ++ (eight n.toNat ++ post)) pre.length = (n, (pre.length : Int) + 8, 0) := by
  have h8 : (eight n.toNat).length = 8 := eight_len _
  have ht : ((pre ++ (eight n.toNat ++ post)).drop pre.length).take 8 = eight n.toNat := by
    rw [List.drop_left, List.take_append_of_le_length (by omega), List.take_of_length_le (by omega)]
  have hg : (pre ++ (eight n.toNat ++ post)).getD pre.length 0 = UInt8.ofNat (n.toNat / 72057594037927936) := by
    rw [List.getD_eq_getElem?_getD, List.getElem?_append_right (Nat.le_refl _), Nat.sub_self, List.getElem?_append_left (by omega), eight_eq]; rfl
  have hb := be_eight n.toNat (by omega)
  unfold numM
  rw [if_pos (show roomM _ _ _ from by unfold roomM; simp only [List.length_append]; omega)]
  simp only [Int.toNat_natCast]
  rw [ht, hb, hg, if_pos (by rw [UInt8.toNat_ofNat']; omega), Int.toNat_of_nonneg h0]
theorem numM_cut (xs : List UInt8) (at_ : Nat) (h : xs.length < at_ + 8) : (numM xs at_).2.2 = 2 := by
  unfold numM
  rw [if_neg (show ¬ roomM _ _ _ from by unfold roomM; omega)]
/-- A text that stands behind other bytes is read. -/
theorem textM_app (pre post s : List UInt8) (most : Int) (h : s.length < 256) (hm : (s.length : Int) ≤ most) :
    textM (pre ++ (UInt8.ofNat s.length :: s ++ post)) pre.length most = (s, (pre.length : Int) + 1 + s.length, 0) := by
  have hg : (pre ++ (UInt8.ofNat s.length :: s ++ post)).getD pre.length 0 = UInt8.ofNat s.length := by
    rw [List.getD_eq_getElem?_getD, List.getElem?_append_right (Nat.le_refl _), Nat.sub_self]; rfl
  have hn : (UInt8.ofNat s.length).toNat = s.length := by rw [UInt8.toNat_ofNat']; omega
  have hbm : byteM (pre ++ (UInt8.ofNat s.length :: s ++ post)) pre.length = ((s.length : Int), (pre.length : Int) + 1, 0) := by
    unfold byteM
    rw [if_pos (show roomM _ _ _ from by unfold roomM; simp only [List.length_append, List.length_cons]; omega)]
    simp only [Int.toNat_natCast]
    rw [hg, hn]
  unfold textM
  rw [hbm]
  simp only [ne_eq, not_true_eq_false, if_false]
  rw [if_neg (by omega), if_pos (show roomM _ _ _ from by unfold roomM; simp only [List.length_append, List.length_cons]; omega)]
  simp only [Int.toNat_natCast]
  rw [show pre ++ (UInt8.ofNat s.length :: s ++ post) = (pre ++ [UInt8.ofNat s.length]) ++ (s ++ post) from by simp, show pre.length + 1 = (pre ++ [UInt8.ofNat s.length]).length from by simp, List.drop_left, List.take_left]
theorem textM_cut (pre s : List UInt8) (k : Nat) (most : Int) (h : s.length < 256) (hm : (s.length : Int) ≤ most) (hk : k < s.length + 1) :
    (textM (pre ++ (UInt8.ofNat s.length :: s).take k) pre.length most).2.2 = 2 := by
  have hn : (UInt8.ofNat s.length).toNat = s.length := by rw [UInt8.toNat_ofNat']; omega
  have hlen : ((UInt8.ofNat s.length :: s).take k).length = k := by simp; omega
  by_cases h0 : k = 0
  · have hbm : (byteM (pre ++ (UInt8.ofNat s.length :: s).take k) pre.length).2.2 = 2 := by
      unfold byteM
      rw [if_neg (show ¬ roomM _ _ _ from by unfold roomM; simp only [List.length_append, hlen]; omega)]
    unfold textM
    rw [if_pos (by rw [hbm]; decide)]
  · have hg : (pre ++ (UInt8.ofNat s.length :: s).take k).getD pre.length 0 = UInt8.ofNat s.length := by
      rw [List.getD_eq_getElem?_getD, List.getElem?_append_right (Nat.le_refl _), Nat.sub_self, List.getElem?_take, if_pos (by omega)]; rfl
    have hbm : byteM (pre ++ (UInt8.ofNat s.length :: s).take k) pre.length = ((s.length : Int), (pre.length : Int) + 1, 0) := by
      unfold byteM
      rw [if_pos (show roomM _ _ _ from by unfold roomM; simp only [List.length_append, hlen]; omega)]
      simp only [Int.toNat_natCast]
      rw [hg, hn]
    unfold textM
    rw [hbm]
    simp only [ne_eq, not_true_eq_false, if_false]
    rw [if_neg (by omega), if_neg (show ¬ roomM _ _ _ from by unfold roomM; simp only [List.length_append, hlen]; omega)]

theorem edge_num (v : Int) : (decide ((putNumM v).2 = 0) == (decide (0 ≤ v) && decide (v < 4611686018427387904))) = true := by
  unfold putNumM
  by_cases h : 0 ≤ v ∧ v < 4611686018427387904
  · rw [if_pos h]; simp [h]
  · rw [if_neg h]; simp; omega
theorem edge_byte (v : Int) : (decide ((putByteM v).2 = 0) == (decide (0 ≤ v) && decide (v < 256))) = true := by
  unfold putByteM
  by_cases h : 0 ≤ v ∧ v < 256
  · rw [if_pos h]; simp [h]
  · rw [if_neg h]; simp; omega
theorem edge_text (s : ByteArray) : (decide ((putTextM s.data.toList).2 = 0) == decide ((s.size : Int) < 256)) = true := by
  have hsz : s.data.toList.length = s.size := by simp
  unfold putTextM
  by_cases h : s.size < 256
  · rw [if_pos (by omega)]; simp; omega
  · rw [if_neg (by omega)]; simp; omega
theorem edge_read (c : UInt8) (m : Int) : (textM [c, 1, 2] 0 m).2.2 = if m < c.toNat then 3 else if 2 < c.toNat then 2 else 0 := by
  have hb : byteM [c, 1, 2] 0 = ((c.toNat : Int), 1, 0) := by
    unfold byteM
    rw [if_pos (show roomM _ _ _ from by unfold roomM; simp)]
    rfl
  unfold textM
  rw [hb]
  simp only [ne_eq, not_true_eq_false, if_false]
  by_cases h : m < c.toNat
  · rw [if_pos h, if_pos h]
  · rw [if_neg h, if_neg h]
    by_cases h2 : 2 < c.toNat
    · rw [if_pos h2, if_neg (show ¬ roomM _ _ _ from by unfold roomM; simp; omega)]
    · rw [if_neg h2, if_pos (show roomM _ _ _ from by unfold roomM; simp; omega)]
theorem edge_first (c : UInt8) : (numM [c, 0, 0, 0, 0, 0, 0, 0] 0).2.2 = if c.toNat < 64 then 0 else 4 := by
  unfold numM
  rw [if_pos (show roomM _ _ _ from by unfold roomM; simp)]
  show (if c.toNat < 64 then _ else _ : Int × Int × Int).2.2 = _
  by_cases h : c.toNat < 64
  · rw [if_pos h, if_pos h]
  · rw [if_neg h, if_neg h]

/-- A cell of a list of bytes that is ours: it may be written. -/
theorem Own.cellB {E : TypeId} {w : World} {v : Value} {ys : List UInt8} {g : Option Nat} {n : Nat} (h : Own E 1 w v n (ys.map u8v) g) (i : Nat) (hi : i < ys.length) :
    ∃ b cap cur, g = some b ∧ v = .slice (some ⟨b, 0, none⟩) n cap ∧ Blk w b E cur ∧ i < cur.length ∧ w.cell? ⟨b, 0 + i * 1, none⟩ = some (.int .u8 (ys.getD i 0).toNat) ∧
      ∀ w' y, Blk w' b E (cur.set i (u8v y)) → Own E 1 w' v n ((ys.set i y).map u8v) g := by
  obtain ⟨hl, ⟨rfl, rfl, rfl⟩ | ⟨b, cap, cur, rfl, rfl, h3, h4, h5, h6, h7⟩⟩ := h
  · simp at hl; subst hl; simp at hi
  · have hn : ys.length = n := by simpa using hl
    have hcur : cur.toList.length = cap * 1 := by simpa using h6
    refine ⟨b, cap, cur.toList, rfl, rfl, by simpa [Blk] using h3, by omega, ?_, fun w' y hb => ?_⟩
    · rw [cell_of_row w b _ cur E (0, 0) h3, Nat.zero_add, Nat.mul_one]
      have : (cur.toList.take (n * 1))[i]? = some (u8v (ys.getD i 0)) := by rw [h7]; simp [hi]
      rw [List.getElem?_take, if_pos (by omega)] at this
      simpa [u8v] using this
    · refine ⟨by simp; omega, .inr ⟨b, cap, (cur.toList.set i (u8v y)).toArray, rfl, rfl, hb, h4, h5, by simpa using h6, ?_⟩⟩
      show (cur.toList.set i (u8v y)).take (n * 1) = _
      rw [List.take_set, h7, List.map_set]
theorem u8_inc (c : UInt8) : IntKind.u8.wrap ((c.toNat : Int) + 1) = ((c + 1 : UInt8).toNat : Int) := by
  rw [IntKind.wrap_u8, UInt8.toNat_add]
  have : (1 : UInt8).toNat = 1 := rfl
  rw [this]
  omega
end Go.V
