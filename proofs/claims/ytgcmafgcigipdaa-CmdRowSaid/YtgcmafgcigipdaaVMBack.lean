/-
  Plain mathematics: what was put is read as it was, wherever it stands; cut anywhere it is too short. No program here.
-/
import Derived.Test.YtgcmafgcigipdaaVMNamed
namespace Go.V
set_option linter.unusedSimpArgs false
set_option linter.unusedVariables false
open Go.RowKit

theorem byteM_app (pre post : List UInt8) (c : UInt8) : byteM (pre ++ (c :: post)) pre.length = ((c.toNat : Int), (pre.length : Int) + 1, 0) := by
  have hg : (pre ++ (c :: post)).getD pre.length 0 = c := by
    rw [List.getD_eq_getElem?_getD, List.getElem?_append_right (Nat.le_refl _), Nat.sub_self]; rfl
  unfold byteM
  rw [if_pos (show roomM _ _ _ from by unfold roomM; simp only [List.length_append, List.length_cons]; omega)]
  simp only [Int.toNat_natCast]
  rw [hg]
theorem getM_raw (pre post s : List UInt8) (k : UInt8) (n : Int) (h0 : 0 ≤ n) (h1 : n < 4611686018427387904) (hs : s.length ≤ 12) :
    getM (pre ++ (k :: (eight n.toNat ++ (UInt8.ofNat s.length :: s ++ post)))) pre.length =
      if mayM k.toNat n s then (((k.toNat : Int), n, s), (pre.length : Int) + 10 + s.length, 0) else ((0, 0, []), 0, 4) := by
  have hb := byteM_app pre (eight n.toNat ++ (UInt8.ofNat s.length :: s ++ post)) k
  have hn := numM_app (pre ++ [k]) (UInt8.ofNat s.length :: s ++ post) n h0 h1
  have ht := textM_app (pre ++ [k] ++ eight n.toNat) post s 12 (by omega) (by omega)
  rw [List.append_assoc, show ((pre ++ [k]).length : Int) = (pre.length : Int) + 1 from by simp] at hn
  rw [List.append_assoc, List.append_assoc, show ((pre ++ [k] ++ eight n.toNat).length : Int) = (pre.length : Int) + 1 + 8 from by simp [eight_len]; omega] at ht
  simp only [List.singleton_append, List.cons_append, List.nil_append] at hn ht
  unfold getM
  rw [hb]
  simp only [List.cons_append]
  rw [hn]
  simp only []
  rw [ht]
  simp only [ne_eq, not_true_eq_false, if_false]
  split
  · congr 2 <;> omega
  · rfl
theorem getReqM_raw (pre post s : List UInt8) (c k : UInt8) (q n : Int) (q0 : 0 ≤ q) (q1 : q < 4611686018427387904) (h0 : 0 ≤ n) (h1 : n < 4611686018427387904) (hs : s.length ≤ 12) :
    getReqM (pre ++ (c :: (eight q.toNat ++ (k :: (eight n.toNat ++ (UInt8.ofNat s.length :: s ++ post)))))) pre.length =
      if mayM k.toNat n s then (if mayReqM c.toNat q k.toNat n s then (((c.toNat : Int), q, (k.toNat : Int), n, s), (pre.length : Int) + 19 + s.length, 0) else ((0, 0, 0, 0, []), 0, 4)) else ((0, 0, 0, 0, []), 0, 4) := by
  have hb := byteM_app pre (eight q.toNat ++ (k :: (eight n.toNat ++ (UInt8.ofNat s.length :: s ++ post)))) c
  have hn := numM_app (pre ++ [c]) (k :: (eight n.toNat ++ (UInt8.ofNat s.length :: s ++ post))) q q0 q1
  have hg := getM_raw (pre ++ [c] ++ eight q.toNat) post s k n h0 h1 hs
  rw [List.append_assoc, show ((pre ++ [c]).length : Int) = (pre.length : Int) + 1 from by simp] at hn
  rw [List.append_assoc, List.append_assoc, show ((pre ++ [c] ++ eight q.toNat).length : Int) = (pre.length : Int) + 1 + 8 from by simp [eight_len]; omega] at hg
  simp only [List.singleton_append, List.cons_append, List.nil_append] at hn hg
  unfold getReqM
  rw [hb]
  simp only [List.cons_append]
  rw [hn]
  simp only []
  rw [hg]
  by_cases hm : mayM k.toNat n s = true
  · simp only [if_pos hm, ne_eq, not_true_eq_false, if_false]
    split
    · congr 2 <;> omega
    · rfl
  · simp only [if_neg hm, ne_eq, not_true_eq_false, if_false]
    rfl

/-- What is read whole is read in a list cut behind it; cut ahead of its end it is too short. -/
def CutOk (A : Type) (R : List UInt8 → Int → A × Int × Int) (xs : List UInt8) (at_ : Int) : Prop :=
  (R xs at_).2.2 = 0 → ∀ L : Nat, L ≤ xs.length → ((R xs at_).2.1 ≤ L → R (xs.take L) at_ = R xs at_) ∧ ((L : Int) < (R xs at_).2.1 → (R (xs.take L) at_).2.2 = 2)
theorem getD_take (xs : List UInt8) (L i : Nat) (h : i < L) : (xs.take L).getD i 0 = xs.getD i 0 := by
  rw [List.getD_eq_getElem?_getD, List.getD_eq_getElem?_getD, List.getElem?_take, if_pos h]
theorem byteM_cut (xs : List UInt8) (at_ : Int) : CutOk _ byteM xs at_ := by
  intro h L hL
  by_cases hr : roomM xs at_ 1
  · have e : byteM xs at_ = (((xs.getD at_.toNat 0).toNat : Int), at_ + 1, 0) := by rw [byteM, if_pos hr]
    rw [e]
    have hr' := hr
    unfold roomM at hr'
    refine ⟨fun hl => ?_, fun hl => ?_⟩
    · have hl' : at_ + 1 ≤ (L : Int) := hl
      rw [byteM, if_pos (show roomM _ _ _ from by unfold roomM; rw [List.length_take, Nat.min_eq_left hL]; omega), getD_take xs L _ (by omega)]
    · have hl' : (L : Int) < at_ + 1 := hl
      rw [byteM, if_neg (show ¬ roomM _ _ _ from by unfold roomM; rw [List.length_take, Nat.min_eq_left hL]; omega)]
  · rw [byteM, if_neg hr] at h; cases h
theorem numM_cutOk (xs : List UInt8) (at_ : Int) : CutOk _ numM xs at_ := by
  intro h L hL
  by_cases hr : roomM xs at_ 8
  · by_cases h64 : (xs.getD at_.toNat 0).toNat < 64
    · have e : numM xs at_ = ((be ((xs.drop at_.toNat).take 8) : Int), at_ + 8, 0) := by rw [numM, if_pos hr, if_pos h64]
      rw [e]
      have hr' := hr
      unfold roomM at hr'
      refine ⟨fun hl => ?_, fun hl => ?_⟩
      · have hl' : at_ + 8 ≤ (L : Int) := hl
        rw [numM, if_pos (show roomM _ _ _ from by unfold roomM; rw [List.length_take, Nat.min_eq_left hL]; omega), getD_take xs L _ (by omega), if_pos h64]
        rw [List.drop_take, List.take_take, Nat.min_eq_left (by omega)]
      · have hl' : (L : Int) < at_ + 8 := hl
        rw [numM, if_neg (show ¬ roomM _ _ _ from by unfold roomM; rw [List.length_take, Nat.min_eq_left hL]; omega)]
    · rw [numM, if_pos hr, if_neg h64] at h; cases h
  · rw [numM, if_neg hr] at h; cases h
theorem textM_cutOk (most : Int) (xs : List UInt8) (at_ : Int) : CutOk _ (fun ys a => textM ys a most) xs at_ := by
  intro h L hL
  have hb := byteM_cut xs at_
  have h' : (textM xs at_ most).2.2 = 0 := h
  show ((textM xs at_ most).2.1 ≤ L → textM (xs.take L) at_ most = textM xs at_ most) ∧ ((L : Int) < (textM xs at_ most).2.1 → (textM (xs.take L) at_ most).2.2 = 2)
  by_cases h0 : (byteM xs at_).2.2 ≠ 0
  · rw [textM, if_pos h0] at h'; cases h'
  · have hz : (byteM xs at_).2.2 = 0 := by simpa using h0
    by_cases hm : most < (byteM xs at_).1
    · rw [textM, if_neg h0, if_pos hm] at h'; cases h'
    · by_cases hr : roomM xs (at_ + 1) (byteM xs at_).1
      · have e : textM xs at_ most = ((xs.drop (at_.toNat + 1)).take (byteM xs at_).1.toNat, at_ + 1 + (byteM xs at_).1, 0) := by rw [textM, if_neg h0, if_neg hm, if_pos hr]
        obtain ⟨c1, c2⟩ := hb hz L hL
        have hr1 : roomM xs at_ 1 := by
          by_cases hq : roomM xs at_ 1
          · exact hq
          · rw [byteM, if_neg hq] at hz; cases hz
        have eb : (byteM xs at_).2.1 = at_ + 1 := by rw [byteM, if_pos hr1]
        have hp : 0 ≤ (byteM xs at_).1 := by rw [byteM, if_pos hr1]; exact Int.natCast_nonneg _
        rw [e]
        unfold roomM at hr hr1
        refine ⟨fun hl => ?_, fun hl => ?_⟩
        · have hl' : at_ + 1 + (byteM xs at_).1 ≤ (L : Int) := hl
          have c := c1 (by rw [eb]; omega)
          rw [textM, c, if_neg h0, if_neg hm, if_pos (show roomM _ _ _ from by unfold roomM; rw [List.length_take, Nat.min_eq_left hL]; omega)]
          rw [List.drop_take, List.take_take, Nat.min_eq_left (by omega)]
        · have hl' : (L : Int) < at_ + 1 + (byteM xs at_).1 := hl
          by_cases hL1 : (L : Int) < at_ + 1
          · have c := c2 (by rw [eb]; exact hL1)
            rw [textM, if_pos (by rw [c]; decide)]
          · have c := c1 (by rw [eb]; omega)
            rw [textM, c, if_neg h0, if_neg hm, if_neg (show ¬ roomM _ _ _ from by unfold roomM; rw [List.length_take, Nat.min_eq_left hL]; omega)]
      · rw [textM, if_neg h0, if_neg hm, if_neg hr] at h'; cases h'
theorem byteM_end (xs : List UInt8) (at_ : Int) (h : (byteM xs at_).2.2 = 0) : at_ ≤ (byteM xs at_).2.1 := by
  by_cases hr : roomM xs at_ 1
  · rw [byteM, if_pos hr]; show at_ ≤ at_ + 1; omega
  · rw [byteM, if_neg hr] at h; cases h
theorem numM_end (xs : List UInt8) (at_ : Int) (h : (numM xs at_).2.2 = 0) : at_ ≤ (numM xs at_).2.1 := by
  by_cases hr : roomM xs at_ 8
  · by_cases h64 : (xs.getD at_.toNat 0).toNat < 64
    · rw [numM, if_pos hr, if_pos h64]; show at_ ≤ at_ + 8; omega
    · rw [numM, if_pos hr, if_neg h64] at h; cases h
  · rw [numM, if_neg hr] at h; cases h
theorem textM_end (most : Int) (xs : List UInt8) (at_ : Int) (h : (textM xs at_ most).2.2 = 0) : at_ ≤ (textM xs at_ most).2.1 := by
  by_cases h0 : (byteM xs at_).2.2 ≠ 0
  · rw [textM, if_pos h0] at h; cases h
  · by_cases hm : most < (byteM xs at_).1
    · rw [textM, if_neg h0, if_pos hm] at h; cases h
    · by_cases hr : roomM xs (at_ + 1) (byteM xs at_).1
      · have hp : 0 ≤ (byteM xs at_).1 := by
          unfold byteM; split
          · exact Int.natCast_nonneg _
          · decide
        rw [textM, if_neg h0, if_neg hm, if_pos hr]; show at_ ≤ at_ + 1 + (byteM xs at_).1; omega
      · rw [textM, if_neg h0, if_neg hm, if_neg hr] at h; cases h
theorem getM_cutOk (xs : List UInt8) (at_ : Int) : CutOk _ getM xs at_ := by
  intro h L hL
  have cb := byteM_cut xs at_
  have cn := numM_cutOk xs (byteM xs at_).2.1
  have ct := textM_cutOk 12 xs (numM xs (byteM xs at_).2.1).2.1
  by_cases h1 : (byteM xs at_).2.2 ≠ 0
  · rw [getM, if_pos h1] at h; exact absurd h h1
  by_cases h2 : (numM xs (byteM xs at_).2.1).2.2 ≠ 0
  · rw [getM, if_neg h1, if_pos h2] at h; exact absurd h h2
  by_cases h3 : (textM xs (numM xs (byteM xs at_).2.1).2.1 12).2.2 ≠ 0
  · rw [getM, if_neg h1, if_neg h2, if_pos h3] at h; exact absurd h h3
  by_cases h4 : mayM (byteM xs at_).1 (numM xs (byteM xs at_).2.1).1 (textM xs (numM xs (byteM xs at_).2.1).2.1 12).1 = true
  · have z1 : (byteM xs at_).2.2 = 0 := by simpa using h1
    have z2 : (numM xs (byteM xs at_).2.1).2.2 = 0 := by simpa using h2
    have z3 : (textM xs (numM xs (byteM xs at_).2.1).2.1 12).2.2 = 0 := by simpa using h3
    have e : getM xs at_ = (((byteM xs at_).1, (numM xs (byteM xs at_).2.1).1, (textM xs (numM xs (byteM xs at_).2.1).2.1 12).1), (textM xs (numM xs (byteM xs at_).2.1).2.1 12).2.1, 0) := by rw [getM, if_neg h1, if_neg h2, if_neg h3, if_pos h4]
    have l2 := numM_end _ _ z2
    have l3 := textM_end _ _ _ z3
    obtain ⟨b1, b2⟩ := cb z1 L hL
    obtain ⟨n1, n2⟩ := cn z2 L hL
    obtain ⟨t1, t2⟩ := ct z3 L hL
    have t1' : (textM xs (numM xs (byteM xs at_).2.1).2.1 12).2.1 ≤ L → textM (xs.take L) (numM xs (byteM xs at_).2.1).2.1 12 = textM xs (numM xs (byteM xs at_).2.1).2.1 12 := t1
    have t2' : (L : Int) < (textM xs (numM xs (byteM xs at_).2.1).2.1 12).2.1 → (textM (xs.take L) (numM xs (byteM xs at_).2.1).2.1 12).2.2 = 2 := t2
    rw [e]
    refine ⟨fun hl => ?_, fun hl => ?_⟩
    · have hl' : (textM xs (numM xs (byteM xs at_).2.1).2.1 12).2.1 ≤ (L : Int) := hl
      rw [getM, b1 (by omega), if_neg h1, n1 (by omega), if_neg h2, t1' hl', if_neg h3, if_pos h4]
    · have hl' : (L : Int) < (textM xs (numM xs (byteM xs at_).2.1).2.1 12).2.1 := hl
      by_cases q1 : (L : Int) < (byteM xs at_).2.1
      · have c := b2 q1
        rw [getM, if_pos (by rw [c]; decide)]; exact c
      · have c1 := b1 (by omega)
        by_cases q2 : (L : Int) < (numM xs (byteM xs at_).2.1).2.1
        · have c := n2 q2
          rw [getM, c1, if_neg h1, if_pos (by rw [c]; decide)]; exact c
        · have c2 := n1 (by omega)
          have c := t2' hl'
          rw [getM, c1, if_neg h1, c2, if_neg h2, if_pos (by rw [c]; decide)]; exact c
  · rw [getM, if_neg h1, if_neg h2, if_neg h3, if_neg h4] at h; cases h
theorem getM_end (xs : List UInt8) (at_ : Int) (h : (getM xs at_).2.2 = 0) : at_ ≤ (getM xs at_).2.1 := by
  by_cases h1 : (byteM xs at_).2.2 ≠ 0
  · rw [getM, if_pos h1] at h; exact absurd h h1
  by_cases h2 : (numM xs (byteM xs at_).2.1).2.2 ≠ 0
  · rw [getM, if_neg h1, if_pos h2] at h; exact absurd h h2
  by_cases h3 : (textM xs (numM xs (byteM xs at_).2.1).2.1 12).2.2 ≠ 0
  · rw [getM, if_neg h1, if_neg h2, if_pos h3] at h; exact absurd h h3
  by_cases h4 : mayM (byteM xs at_).1 (numM xs (byteM xs at_).2.1).1 (textM xs (numM xs (byteM xs at_).2.1).2.1 12).1 = true
  · have l1 := byteM_end xs at_ (by simpa using h1)
    have l2 := numM_end xs (byteM xs at_).2.1 (by simpa using h2)
    have l3 := textM_end 12 xs (numM xs (byteM xs at_).2.1).2.1 (by simpa using h3)
    rw [getM, if_neg h1, if_neg h2, if_neg h3, if_pos h4]
    show at_ ≤ (textM xs (numM xs (byteM xs at_).2.1).2.1 12).2.1
    omega
  · rw [getM, if_neg h1, if_neg h2, if_neg h3, if_neg h4] at h; cases h
theorem getReqM_cutOk (xs : List UInt8) (at_ : Int) : CutOk _ getReqM xs at_ := by
  intro h L hL
  have cb := byteM_cut xs at_
  have cn := numM_cutOk xs (byteM xs at_).2.1
  have ct := getM_cutOk xs (numM xs (byteM xs at_).2.1).2.1
  by_cases h1 : (byteM xs at_).2.2 ≠ 0
  · rw [getReqM, if_pos h1] at h; exact absurd h h1
  by_cases h2 : (numM xs (byteM xs at_).2.1).2.2 ≠ 0
  · rw [getReqM, if_neg h1, if_pos h2] at h; exact absurd h h2
  by_cases h3 : (getM xs (numM xs (byteM xs at_).2.1).2.1).2.2 ≠ 0
  · rw [getReqM, if_neg h1, if_neg h2, if_pos h3] at h; exact absurd h h3
  by_cases h4 : mayReqM (byteM xs at_).1 (numM xs (byteM xs at_).2.1).1 (getM xs (numM xs (byteM xs at_).2.1).2.1).1.1 (getM xs (numM xs (byteM xs at_).2.1).2.1).1.2.1 (getM xs (numM xs (byteM xs at_).2.1).2.1).1.2.2 = true
  · have z1 : (byteM xs at_).2.2 = 0 := by simpa using h1
    have z2 : (numM xs (byteM xs at_).2.1).2.2 = 0 := by simpa using h2
    have z3 : (getM xs (numM xs (byteM xs at_).2.1).2.1).2.2 = 0 := by simpa using h3
    have e : getReqM xs at_ = (((byteM xs at_).1, (numM xs (byteM xs at_).2.1).1, (getM xs (numM xs (byteM xs at_).2.1).2.1).1), (getM xs (numM xs (byteM xs at_).2.1).2.1).2.1, 0) := by rw [getReqM, if_neg h1, if_neg h2, if_neg h3, if_pos h4]
    have l2 := numM_end _ _ z2
    have l3 := getM_end _ _ z3
    obtain ⟨b1, b2⟩ := cb z1 L hL
    obtain ⟨n1, n2⟩ := cn z2 L hL
    obtain ⟨t1, t2⟩ := ct z3 L hL
    rw [e]
    refine ⟨fun hl => ?_, fun hl => ?_⟩
    · have hl' : (getM xs (numM xs (byteM xs at_).2.1).2.1).2.1 ≤ (L : Int) := hl
      rw [getReqM, b1 (by omega), if_neg h1, n1 (by omega), if_neg h2, t1 hl', if_neg h3, if_pos h4]
    · have hl' : (L : Int) < (getM xs (numM xs (byteM xs at_).2.1).2.1).2.1 := hl
      by_cases q1 : (L : Int) < (byteM xs at_).2.1
      · have c := b2 q1
        rw [getReqM, if_pos (by rw [c]; decide)]; exact c
      · have c1 := b1 (by omega)
        by_cases q2 : (L : Int) < (numM xs (byteM xs at_).2.1).2.1
        · have c := n2 q2
          rw [getReqM, c1, if_neg h1, if_pos (by rw [c]; decide)]; exact c
        · have c2 := n1 (by omega)
          have c := t2 hl'
          rw [getReqM, c1, if_neg h1, c2, if_neg h2, if_pos (by rw [c]; decide)]; exact c
  · rw [getReqM, if_neg h1, if_neg h2, if_neg h3, if_neg h4] at h; cases h
end Go.V
