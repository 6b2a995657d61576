/-
  Plain mathematics: what was read is what its bytes say: put again it is the same bytes. No program here.
-/
import Derived.Test.YtalieccfdmokmaaVMRd
namespace Go.V
set_option linter.unusedSimpArgs false
set_option linter.unusedVariables false
open Go.RowKit

/-- What is read stands to the bytes that were taken as Q says. -/
def Inv {A : Type} (R : List UInt8 → Int → A × Int × Int) (Q : A → List UInt8 → Prop) : Prop := ∀ (xs : List UInt8) (a : Nat), (R xs a).2.2 = 0 → ∃ e : Nat, (R xs a).2.1 = (e : Int) ∧ a ≤ e ∧ Q (R xs a).1 ((xs.drop a).take (e - a))
theorem inv_bind {A B : Type} {R : List UInt8 → Int → A × Int × Int} {z : B} {k : A → List UInt8 → Int → B × Int × Int} {Q1 : A → List UInt8 → Prop} {Q2 : A → B → List UInt8 → Prop} {Q : B → List UInt8 → Prop} (h : Inv R Q1) (hk : ∀ v, Inv (k v) (Q2 v))
    (hq : ∀ v b cs ds, Q1 v cs → Q2 v b ds → Q b (cs ++ ds)) : Inv (bindR R z k) Q := fun xs a ho => by
  by_cases q : (R xs a).2.2 = 0
  · obtain ⟨e1, h1, l1, q1⟩ := h xs a q
    have e : bindR R z k xs a = k (R xs a).1 xs (e1 : Int) := by rw [bindR, if_pos q, h1]
    rw [e] at ho ⊢
    obtain ⟨e2, h2, l2, q2⟩ := hk _ xs e1 ho
    refine ⟨e2, h2, by omega, ?_⟩
    have := hq _ _ _ _ q1 q2
    have e3 : (xs.drop a).take (e2 - a) = (xs.drop a).take (e1 - a) ++ (xs.drop e1).take (e2 - e1) := by
      rw [show e2 - a = (e1 - a) + (e2 - e1) by omega, List.take_add, List.drop_drop, show a + (e1 - a) = e1 by omega]
    rw [e3]; exact this
  · rw [bindR, if_neg q] at ho
    exact absurd ho q
theorem inv_chk {B : Type} {b : Bool} {v z : B} {Q : B → List UInt8 → Prop} (h : b = true → Q v []) : Inv (chkR b v z) Q := fun xs a ho => by
  unfold chkR at ho ⊢
  by_cases hb : b = true
  · simp only [if_pos hb] at ho ⊢
    exact ⟨a, rfl, Nat.le_refl _, by rw [Nat.sub_self, List.take_zero]; exact h hb⟩
  · simp only [if_neg hb] at ho
    cases ho
theorem inv_fail {B : Type} {z : B} {c : Int} {Q : B → List UInt8 → Prop} (hc : c ≠ 0) : Inv (failR z c) Q := fun xs a h => absurd h hc
theorem inv_pure {B : Type} {v : B} {Q : B → List UInt8 → Prop} (h : Q v []) : Inv (fun _ a => (v, a, 0)) Q := fun xs a ho => ⟨a, rfl, Nat.le_refl _, by rw [Nat.sub_self, List.take_zero]; exact h⟩
theorem inv_if {B : Type} {c : Prop} [Decidable c] {R S : List UInt8 → Int → B × Int × Int} {Q : B → List UInt8 → Prop} (h : c → Inv R Q) (k : ¬ c → Inv S Q) : Inv (if c then R else S) Q := by
  by_cases q : c
  · rw [if_pos q]; exact h q
  · rw [if_neg q]; exact k q
theorem eight_be (a b c d e f g h : UInt8) : eight (be [a, b, c, d, e, f, g, h]) = [a, b, c, d, e, f, g, h] := by
  rw [eight_eq]
  have ha := a.toNat_lt; have hb := b.toNat_lt; have hc := c.toNat_lt; have hd := d.toNat_lt
  have he := e.toNat_lt; have hf := f.toNat_lt; have hg := g.toNat_lt; have hh := h.toNat_lt
  have hbe : be [a, b, c, d, e, f, g, h] = a.toNat * 72057594037927936 + b.toNat * 281474976710656 + c.toNat * 1099511627776 + d.toNat * 4294967296 + e.toNat * 16777216 + f.toNat * 65536 + g.toNat * 256 + h.toNat := by
    simp only [be, List.foldl_cons, List.foldl_nil]; omega
  have u : ∀ (n : Nat) (x : UInt8), n % 256 = x.toNat → UInt8.ofNat n = x := fun n x hx => UInt8.toNat_inj.1 (by rw [UInt8.toNat_ofNat']; omega)
  rw [hbe, u _ a (by omega), u _ b (by omega), u _ c (by omega), u _ d (by omega), u _ e (by omega), u _ f (by omega), u _ g (by omega), u _ h (by omega)]
theorem inv_byte : Inv byteM (fun n cs => 0 ≤ n ∧ n < 256 ∧ cs = [UInt8.ofNat n.toNat]) := fun xs a ho => by
  unfold byteM at ho ⊢
  by_cases hr : roomM xs a 1
  · rw [if_pos hr] at ho ⊢
    have hl : a < xs.length := by simp [roomM] at hr; omega
    refine ⟨a + 1, by simp, by omega, ?_⟩
    have hx := (xs.getD a 0).toNat_lt
    simp only [Int.toNat_natCast]
    refine ⟨by omega, by omega, ?_⟩
    rw [show a + 1 - a = 1 by omega, List.drop_eq_getElem_cons hl, List.take_succ_cons, List.take_zero, List.getD_eq_getElem?_getD, List.getElem?_eq_getElem hl]
    simp
  · rw [if_neg hr] at ho
    cases ho
theorem inv_num : Inv numM (fun n cs => 0 ≤ n ∧ n < 4611686018427387904 ∧ cs = eight n.toNat) := fun xs a ho => by
  unfold numM at ho ⊢
  by_cases hr : roomM xs a 8
  · rw [if_pos hr] at ho ⊢
    have hl : a + 8 ≤ xs.length := by simp [roomM] at hr; omega
    by_cases h64 : (xs.getD (a : Int).toNat 0).toNat < 64
    · rw [if_pos h64] at ho ⊢
      refine ⟨a + 8, by simp, by omega, ?_⟩
      simp only [Int.toNat_natCast] at h64 ⊢
      rw [show a + 8 - a = 8 by omega]
      have hlen : ((xs.drop a).take 8).length = 8 := by rw [List.length_take, List.length_drop]; omega
      have h0 : ((xs.drop a).take 8)[0]? = xs[a]? := by simp [List.getElem?_take]
      generalize hq : (xs.drop a).take 8 = ys at hlen h0 ⊢
      match ys, hlen with
      | [y0, y1, y2, y3, y4, y5, y6, y7], _ =>
        have hy : xs.getD a 0 = y0 := by rw [List.getD_eq_getElem?_getD, ← h0]; rfl
        rw [hy] at h64
        have g1 := y1.toNat_lt; have g2 := y2.toNat_lt; have g3 := y3.toNat_lt; have g4 := y4.toNat_lt
        have g5 := y5.toNat_lt; have g6 := y6.toNat_lt; have g7 := y7.toNat_lt
        have hb : be [y0, y1, y2, y3, y4, y5, y6, y7] < 4611686018427387904 := by
          simp only [be, List.foldl_cons, List.foldl_nil]; omega
        refine ⟨by omega, by omega, ?_⟩
        rw [eight_be]
    · rw [if_neg h64] at ho
      cases ho
  · rw [if_neg hr] at ho
    cases ho
theorem inv_text (most : Int) : Inv (fun ys a => textM ys a most) (fun s cs => s.length < 256 ∧ (s.length : Int) ≤ most ∧ cs = UInt8.ofNat s.length :: s) := fun xs a ho => by
  unfold textM at ho ⊢
  dsimp only at ho ⊢
  by_cases h1 : (byteM xs a).2.2 ≠ 0
  · rw [if_pos h1] at ho
    cases ho
  · rw [if_neg h1] at ho ⊢
    have z1 : (byteM xs a).2.2 = 0 := by simpa using h1
    obtain ⟨e1, he1, hl1, n0, n1, hc⟩ := inv_byte xs a z1
    have hend : (byteM xs a).2.1 = (a : Int) + 1 := by
      by_cases hr : roomM xs a 1
      · rw [byteM, if_pos hr]
      · rw [byteM, if_neg hr] at z1; cases z1
    have he2 : e1 = a + 1 := by omega
    clear he1 hend
    by_cases h2 : most < (byteM xs a).1
    · rw [if_pos h2] at ho
      cases ho
    · rw [if_neg h2] at ho ⊢
      by_cases h3 : roomM xs (a + 1) (byteM xs a).1
      · rw [if_pos h3] at ho ⊢
        have hr : a + 1 + (byteM xs a).1.toNat ≤ xs.length := by simp [roomM] at h3; omega
        generalize (byteM xs a).1 = n at *
        have hl : ((xs.drop (a + 1)).take n.toNat).length = n.toNat := by rw [List.length_take, List.length_drop]; omega
        have hone : (xs.drop a).take 1 = [UInt8.ofNat n.toNat] := by
          have h4 : (xs.drop a).length = xs.length - a := List.length_drop
          have h5 := congrArg List.length hc
          rw [List.length_take, List.length_singleton, h4] at h5
          rw [show 1 = e1 - a by omega]; exact hc
        refine ⟨a + 1 + n.toNat, by simp only; omega, by omega, ?_⟩
        simp only [Int.toNat_natCast]
        refine ⟨by omega, by omega, ?_⟩
        rw [hl, show a + 1 + n.toNat - a = 1 + n.toNat by omega, List.take_add, hone, List.drop_drop]
        rfl
      · rw [if_neg h3] at ho
        cases ho
theorem getM_eq : getM = bindR byteM (0, 0, []) fun k => bindR numM (0, 0, []) fun n => bindR (fun ys a => textM ys a 12) (0, 0, []) fun s => chkR (mayM k n s) (k, n, s) (0, 0, []) := by
  funext xs a
  unfold getM bindR chkR
  simp only [ne_eq, ite_not]
theorem getReqM_eq : getReqM = bindR byteM (0, 0, 0, 0, []) fun c => bindR numM (0, 0, 0, 0, []) fun q => bindR getM (0, 0, 0, 0, []) fun m => chkR (mayReqM c q m.1 m.2.1 m.2.2) (c, q, m) (0, 0, 0, 0, []) := by
  funext xs a
  unfold getReqM bindR chkR
  simp only [ne_eq, ite_not]
theorem rd_get : Rd getM := by
  rw [getM_eq]
  exact rd_bind rd_byte fun k => rd_bind rd_num fun n => rd_bind (rd_text 12) fun s => rd_chk _ _ _
theorem rd_req : Rd getReqM := by
  rw [getReqM_eq]
  exact rd_bind rd_byte fun c => rd_bind rd_num fun q => rd_bind rd_get fun m => rd_chk _ _ _
theorem inv_get : Inv getM (fun m cs => mayM m.1 m.2.1 m.2.2 = true ∧ cs = (putM m.1 m.2.1 m.2.2).1) := by
  rw [getM_eq]
  refine inv_bind inv_byte (Q2 := fun k m ds => m.1 = k ∧ mayM m.1 m.2.1 m.2.2 = true ∧ ds = eight m.2.1.toNat ++ (UInt8.ofNat m.2.2.length :: m.2.2)) (fun k => inv_bind inv_num (Q2 := fun n m ds => m.1 = k ∧ m.2.1 = n ∧ mayM m.1 m.2.1 m.2.2 = true ∧ ds = UInt8.ofNat m.2.2.length :: m.2.2) (fun n => inv_bind (inv_text 12) (Q2 := fun s m ds => m = (k, n, s) ∧ mayM k n s = true ∧ ds = []) (fun s => inv_chk fun h => ⟨rfl, h, rfl⟩) ?_) ?_) ?_
  · rintro s m cs ds ⟨_, _, rfl⟩ ⟨rfl, h, rfl⟩
    exact ⟨rfl, rfl, h, by simp⟩
  · rintro n m cs ds ⟨_, _, rfl⟩ ⟨h1, h2, h, rfl⟩
    exact ⟨h1, h, by rw [h2]⟩
  · rintro k m cs ds ⟨_, _, rfl⟩ ⟨h1, h, rfl⟩
    refine ⟨h, ?_⟩
    rw [putM, if_pos h, h1]; simp
theorem inv_req : Inv getReqM (fun m cs => mayReqM m.1 m.2.1 m.2.2.1 m.2.2.2.1 m.2.2.2.2 = true ∧ cs = (putReqM m.1 m.2.1 m.2.2.1 m.2.2.2.1 m.2.2.2.2).1) := by
  rw [getReqM_eq]
  refine inv_bind inv_byte (Q2 := fun c m ds => m.1 = c ∧ mayReqM m.1 m.2.1 m.2.2.1 m.2.2.2.1 m.2.2.2.2 = true ∧ ds = eight m.2.1.toNat ++ (putM m.2.2.1 m.2.2.2.1 m.2.2.2.2).1) (fun c => inv_bind inv_num (Q2 := fun q m ds => m.1 = c ∧ m.2.1 = q ∧ mayReqM m.1 m.2.1 m.2.2.1 m.2.2.2.1 m.2.2.2.2 = true ∧ ds = (putM m.2.2.1 m.2.2.2.1 m.2.2.2.2).1) (fun q => inv_bind inv_get (Q2 := fun g m ds => m = (c, q, g) ∧ mayReqM c q g.1 g.2.1 g.2.2 = true ∧ ds = []) (fun g => inv_chk fun h => ⟨rfl, h, rfl⟩) ?_) ?_) ?_
  · rintro g m cs ds ⟨_, rfl⟩ ⟨rfl, h, rfl⟩
    exact ⟨rfl, rfl, h, by simp⟩
  · rintro q m cs ds ⟨_, _, rfl⟩ ⟨h1, h2, h, rfl⟩
    exact ⟨h1, h, by rw [h2]⟩
  · rintro c m cs ds ⟨_, _, rfl⟩ ⟨h1, h, rfl⟩
    refine ⟨h, ?_⟩
    rw [putReqM, if_pos h, h1]; simp
theorem to_get {k n : Int} {s : List UInt8} (h : mayM k n s = true) (k0 : 0 ≤ k) (k1 : k < 256) (n0 : 0 ≤ n) (n1 : n < 4611686018427387904) (hs : s.length ≤ 12) : RdTo getM (putM k n s).1 (k, n, s) := by
  rw [getM_eq]
  have e : (putM k n s).1 = [UInt8.ofNat k.toNat] ++ (eight n.toNat ++ ((UInt8.ofNat s.length :: s) ++ [])) := by rw [putM, if_pos h]; simp
  rw [e]
  exact to_bind (to_byte k0 k1) (to_bind (to_num n0 n1) (to_bind (to_text (by omega) (by omega)) (to_chk h)))
theorem to_req {c q k n : Int} {s : List UInt8} (h : mayReqM c q k n s = true) : RdTo getReqM (putReqM c q k n s).1 (c, q, k, n, s) := by
  obtain ⟨h1, h2, h3, h4, h5⟩ := mayReq_all h
  have hm := may_all h5
  rw [getReqM_eq]
  have e : (putReqM c q k n s).1 = [UInt8.ofNat c.toNat] ++ (eight q.toNat ++ ((putM k n s).1 ++ [])) := by rw [putReqM, if_pos h]; simp
  rw [e]
  exact to_bind (to_byte h1 (by omega)) (to_bind (to_num (by omega) (by omega)) (to_bind (to_get h5 (by omega) (by omega) (by omega) (by omega) (by omega)) (to_chk h)))
end Go.V
