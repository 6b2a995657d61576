/-
  Plain mathematics of CmdBack: the bytes of a request by numbers; one byte turned. No program here.
-/
import Derived.Test.YtgcmafgcigipdaaVMBack
namespace Go.V
set_option linter.unusedSimpArgs false
set_option linter.unusedVariables false
open Go.RowKit

theorem xor_u8 (a b : UInt8) : bits .xor .u8 (a.toNat : Int) (b.toNat : Int) = ((a ^^^ b).toNat : Int) := by
  show IntKind.u8.wrap (((BitVec.ofInt 8 (a.toNat : Int) ^^^ BitVec.ofInt 8 (b.toNat : Int) : BitVec 8).toNat : Nat) : Int) = _
  have ha := UInt8.toNat_lt a
  have hb := UInt8.toNat_lt b
  have hx : a.toNat ^^^ b.toNat < 256 := Nat.xor_lt_two_pow (n := 8) ha hb
  rw [BitVec.ofInt_natCast, BitVec.ofInt_natCast, BitVec.toNat_xor, BitVec.toNat_ofNat, BitVec.toNat_ofNat, Nat.mod_eq_of_lt (by omega), Nat.mod_eq_of_lt (by omega), UInt8.toNat_xor, IntKind.wrap_u8]
  omega
/-- A request's bytes. -/
def reqB (c k : UInt8) (q n : Int) (s post : List UInt8) : List UInt8 := c :: (eight q.toNat ++ (k :: (eight n.toNat ++ (UInt8.ofNat s.length :: s ++ post))))
theorem reqB_len (c k : UInt8) (q n : Int) (s post : List UInt8) : (reqB c k q n s post).length = 19 + s.length + post.length := by
  simp [reqB, eight_len]; omega
theorem reqB_app (c k : UInt8) (q n : Int) (s post : List UInt8) : reqB c k q n s [] ++ post = reqB c k q n s post := by simp [reqB]
theorem reqB_set (c k k' : UInt8) (q n : Int) (s post : List UInt8) : (reqB c k q n s post).set 9 k' = reqB c k' q n s post := by
  unfold reqB
  rw [List.set_cons_succ, List.set_append_right _ _ (by rw [eight_len]; decide), eight_len]
  rfl
theorem reqB_get (c k : UInt8) (q n : Int) (s post : List UInt8) : (reqB c k q n s post).getD 9 0 = k := by
  unfold reqB
  rw [List.getD_cons_succ, List.getD_eq_getElem?_getD, List.getElem?_append_right (by rw [eight_len]; decide), eight_len]
  rfl
theorem putReq_B {c q k n : Int} {s : List UInt8} (h : mayReqM c q k n s = true) : putReqM c q k n s = (reqB (UInt8.ofNat c.toNat) (UInt8.ofNat k.toNat) q n s [], 0) := by
  have hm := (mayReq_all h).2.2.2.2
  rw [putReqM, if_pos h, putM, if_pos hm]
  simp [reqB]
theorem getReq_B (pre post s : List UInt8) (c q k n : Int) (h : mayReqM c q k n s = true) : getReqM (pre ++ reqB (UInt8.ofNat c.toNat) (UInt8.ofNat k.toNat) q n s post) pre.length = ((c, q, k, n, s), (pre.length : Int) + 19 + s.length, 0) := by
  obtain ⟨h1, h2, h3, h4, hm⟩ := mayReq_all h
  obtain ⟨k1, k2, k3, k4, k5⟩ := may_all hm
  have hc : ((UInt8.ofNat c.toNat).toNat : Int) = c := by rw [UInt8.toNat_ofNat']; omega
  have hk : ((UInt8.ofNat k.toNat).toNat : Int) = k := by rw [UInt8.toNat_ofNat']; omega
  have hr := getReqM_raw pre post s (UInt8.ofNat c.toNat) (UInt8.ofNat k.toNat) q n (by omega) (by omega) k3 k4 k5
  unfold reqB
  rw [hr, hk, hc, if_pos hm, if_pos h]
/-- The kind's byte turned: another request, or none. -/
theorem getReq_turn (post s : List UInt8) (c q n : Int) (k k' : UInt8) (h : mayReqM c q k.toNat n s = true) :
    ((getReqM (reqB (UInt8.ofNat c.toNat) k' q n s post) 0).2.2 = 4) ∨
      ((getReqM (reqB (UInt8.ofNat c.toNat) k' q n s post) 0).2.2 = 0 ∧ (getReqM (reqB (UInt8.ofNat c.toNat) k' q n s post) 0).1 = (c, q, (k'.toNat : Int), n, s)) := by
  obtain ⟨h1, h2, h3, h4, hm⟩ := mayReq_all h
  obtain ⟨k1, k2, k3, k4, k5⟩ := may_all hm
  have hc : ((UInt8.ofNat c.toNat).toNat : Int) = c := by rw [UInt8.toNat_ofNat']; omega
  have hr := getReqM_raw [] post s (UInt8.ofNat c.toNat) k' q n (by omega) (by omega) k3 k4 k5
  rw [hc] at hr
  have hr' : getReqM (reqB (UInt8.ofNat c.toNat) k' q n s post) 0 = _ := hr
  rw [hr']
  by_cases m1 : mayM k'.toNat n s = true
  · by_cases m2 : mayReqM c q k'.toNat n s = true
    · rw [if_pos m1, if_pos m2]; exact .inr ⟨rfl, rfl⟩
    · rw [if_pos m1, if_neg m2]; exact .inl rfl
  · rw [if_neg m1]; exact .inl rfl
theorem xor_same (a b : UInt8) : (a ^^^ b = a) ↔ b.toNat = 0 := by
  constructor
  · intro h
    have h2 : a ^^^ (a ^^^ b) = a ^^^ a := by rw [h]
    rw [← UInt8.xor_assoc, UInt8.xor_self, UInt8.zero_xor] at h2
    rw [h2]; rfl
  · intro h
    have : b = 0 := UInt8.toNat_inj.1 h
    rw [this, UInt8.xor_zero]
end Go.V
