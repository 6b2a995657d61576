/-
  Plain mathematics: readers, one behind the other; what was put is read again; cut anywhere there is too little. No program here.
-/
import Derived.Test.YtalieccfdmokmaaVMBack
namespace Go.V
set_option linter.unusedSimpArgs false
set_option linter.unusedVariables false
open Go.RowKit

/-- One reader behind another one. -/
def bindR {A B : Type} (R : List UInt8 → Int → A × Int × Int) (z : B) (k : A → List UInt8 → Int → B × Int × Int) (xs : List UInt8) (at_ : Int) : B × Int × Int :=
  if (R xs at_).2.2 = 0 then k (R xs at_).1 xs (R xs at_).2.1 else (z, 0, (R xs at_).2.2)
/-- No more is read. -/
def chkR {B : Type} (b : Bool) (v z : B) (_xs : List UInt8) (at_ : Int) : B × Int × Int := if b = true then (v, at_, 0) else (z, 0, 4)
def failR {B : Type} (z : B) (c : Int) (_xs : List UInt8) (_at : Int) : B × Int × Int := (z, 0, c)
/-- A reader: it goes ahead; of less than it took there is too little. -/
def Rd {A : Type} (R : List UInt8 → Int → A × Int × Int) : Prop := ∀ (xs : List UInt8) (at_ : Int), (R xs at_).2.2 = 0 → at_ ≤ (R xs at_).2.1 ∧
  ∀ L : Nat, L ≤ xs.length → ((R xs at_).2.1 ≤ L → R (xs.take L) at_ = R xs at_) ∧ (at_ ≤ L → (L : Int) < (R xs at_).2.1 → (R (xs.take L) at_).2.2 = 2)
theorem rd_byte : Rd byteM := fun xs a h => ⟨byteM_end xs a h, fun L hL => ⟨(byteM_cut xs a h L hL).1, fun _ => (byteM_cut xs a h L hL).2⟩⟩
theorem rd_num : Rd numM := fun xs a h => ⟨numM_end xs a h, fun L hL => ⟨(numM_cutOk xs a h L hL).1, fun _ => (numM_cutOk xs a h L hL).2⟩⟩
theorem rd_text (most : Int) : Rd (fun ys a => textM ys a most) := fun xs a h => ⟨textM_end most xs a h, fun L hL => ⟨(textM_cutOk most xs a h L hL).1, fun _ => (textM_cutOk most xs a h L hL).2⟩⟩
theorem rd_chk {B : Type} (b : Bool) (v z : B) : Rd (chkR b v z) := fun xs a h => by
  unfold chkR at h ⊢
  by_cases hb : b = true
  · simp only [if_pos hb] at h ⊢
    refine ⟨Int.le_refl _, fun L hL => ⟨fun _ => trivial, fun h1 h2 => ?_⟩⟩
    omega
  · simp only [if_neg hb] at h
    cases h
theorem rd_fail {B : Type} (z : B) {c : Int} (hc : c ≠ 0) : Rd (failR z c) := fun xs a h => absurd h hc
theorem rd_pure {B : Type} (v : B) : Rd (fun _ a => (v, a, 0)) := fun xs a h => by
  refine ⟨Int.le_refl _, fun L hL => ⟨fun _ => rfl, fun h1 h2 => ?_⟩⟩
  simp only at h2
  omega
theorem rd_bind {A B : Type} {R : List UInt8 → Int → A × Int × Int} {z : B} {k : A → List UInt8 → Int → B × Int × Int} (hR : Rd R) (hk : ∀ a, Rd (k a)) : Rd (bindR R z k) := fun xs a h => by
  by_cases h1 : (R xs a).2.2 ≠ 0
  · rw [bindR, if_neg h1] at h
    exact absurd h h1
  · have z1 : (R xs a).2.2 = 0 := by simpa using h1
    have e : bindR R z k xs a = k (R xs a).1 xs (R xs a).2.1 := by rw [bindR, if_pos z1]
    rw [e] at h ⊢
    obtain ⟨e1, c1⟩ := hR xs a z1
    obtain ⟨e2, c2⟩ := hk _ xs _ h
    refine ⟨by omega, fun L hL => ⟨fun hl => ?_, fun h2 hl => ?_⟩⟩
    · rw [bindR, (c1 L hL).1 (by omega), if_pos z1, (c2 L hL).1 hl]
    · by_cases q : (L : Int) < (R xs a).2.1
      · have c := (c1 L hL).2 h2 q
        rw [bindR, if_neg (by rw [c]; decide)]; exact c
      · rw [bindR, (c1 L hL).1 (by omega), if_pos z1]
        exact (c2 L hL).2 (by omega) hl
/-- Some bytes are read as something, wherever they stand. -/
def RdTo {A : Type} (R : List UInt8 → Int → A × Int × Int) (bs : List UInt8) (a : A) : Prop := ∀ pre post : List UInt8, R (pre ++ (bs ++ post)) pre.length = (a, (pre.length : Int) + bs.length, 0)
theorem to_byte {n : Int} (h0 : 0 ≤ n) (h1 : n < 256) : RdTo byteM [UInt8.ofNat n.toNat] n := fun pre post => by
  have := byteM_app pre post (UInt8.ofNat n.toNat)
  have e : ((UInt8.ofNat n.toNat).toNat : Int) = n := by rw [UInt8.toNat_ofNat']; omega
  rw [e] at this
  exact this
theorem to_num {n : Int} (h0 : 0 ≤ n) (h1 : n < 4611686018427387904) : RdTo numM (eight n.toNat) n := fun pre post => by
  rw [numM_app pre post n h0 h1, eight_len]; rfl
theorem to_text {s : List UInt8} {most : Int} (h : s.length < 256) (hm : (s.length : Int) ≤ most) : RdTo (fun ys a => textM ys a most) (UInt8.ofNat s.length :: s) s := fun pre post => by
  have := textM_app pre post s most h hm
  rw [List.cons_append] at this
  show textM (pre ++ (UInt8.ofNat s.length :: s ++ post)) pre.length most = _
  rw [List.cons_append, this, List.length_cons]
  congr 2
  omega
theorem to_bind {A B : Type} {R : List UInt8 → Int → A × Int × Int} {z : B} {k : A → List UInt8 → Int → B × Int × Int} {bs cs : List UInt8} {a : A} {b : B} (h : RdTo R bs a) (hk : RdTo (k a) cs b) : RdTo (bindR R z k) (bs ++ cs) b := fun pre post => by
  have h1 := h pre (cs ++ post)
  have h2 := hk (pre ++ bs) post
  rw [List.append_assoc, bindR, h1, if_pos rfl]
  simp only
  rw [show pre ++ (bs ++ (cs ++ post)) = (pre ++ bs) ++ (cs ++ post) by simp, show (pre.length : Int) + bs.length = ((pre ++ bs).length : Nat) by simp, h2, List.length_append, List.length_append]
  congr 2
  simp only [List.length_append, Int.natCast_add]
  omega
theorem to_chk {B : Type} {b : Bool} {v z : B} (h : b = true) : RdTo (chkR b v z) [] v := fun pre post => by
  rw [chkR, if_pos h]; simp
theorem to_pure {B : Type} (v : B) : RdTo (fun _ a => (v, a, 0)) [] v := fun pre post => by simp
/-- What is put is read, and cut it is too short. -/
theorem RdTo.cut {A : Type} {R : List UInt8 → Int → A × Int × Int} {bs : List UInt8} {a : A} (h : RdTo R bs a) (hR : Rd R) (pre : List UInt8) (k : Nat) (hk : k < bs.length) : (R (pre ++ bs.take k) pre.length).2.2 = 2 := by
  have h1 := h pre []
  rw [List.append_nil] at h1
  have h2 := (hR (pre ++ bs) pre.length (by rw [h1])).2 (pre.length + k) (by rw [List.length_append]; omega)
  have h3 := h2.2 (by omega) (by rw [h1]; simp only; omega)
  rw [List.take_append, List.take_of_length_le (by omega), show pre.length + k - pre.length = k by omega] at h3
  exact h3
end Go.V
