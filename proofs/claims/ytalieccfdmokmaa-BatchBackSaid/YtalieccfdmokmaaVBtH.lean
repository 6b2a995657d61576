/-
  The walks of layer 12's laws: a batch is read as it was put; cut it is too short; a byte turned it is another one.
-/
import Derived.Test.YtalieccfdmokmaaVBtF
import Derived.Test.YtalieccfdmokmaaVMInv
namespace Go.Proofs.Ytalieccfdmokmaa
set_option linter.unusedSimpArgs false
set_option linter.unusedVariables false
set_option maxRecDepth 20000
open Go.V Go.RowKit Go.ChangeShapes Go.WideShapes

theorem ba_back (s : ByteArray) : (⟨s.data.toList.toArray⟩ : ByteArray) = s := by cases s; simp
theorem rd_rq : Rd getRq := fun xs a h => by
  obtain ⟨h1, h2⟩ := rd_req xs a h
  refine ⟨h1, fun L hL => ⟨fun hl => ?_, fun q hl => (h2 L hL).2 q hl⟩⟩
  have := (h2 L hL).1 hl
  simp only [getRq, this]
theorem to_rq {x : Rq} (h : mayRq x = true) : RdTo getRq (putRq x).1 x := fun pre post => by
  have := to_req h pre post
  simp only [getRq]
  rw [show (putRq x).1 = (putReqM x.client x.seq x.cmd.kind x.cmd.session x.cmd.name.data.toList).1 from rfl, this]
theorem inv_rq : Inv getRq (fun x cs => mayRq x = true ∧ cs = (putRq x).1) := fun xs a h => by
  obtain ⟨e, h1, h2, h3⟩ := inv_req xs a h
  exact ⟨e, h1, h2, h3⟩
theorem rd_reqs : ∀ (n : Nat) (l : List Rq), Rd (reqsR n l)
  | 0, l => rd_pure l
  | n + 1, l => rd_bind rd_rq fun x => rd_reqs n _
theorem rd_bat : Rd getBat := rd_bind rd_byte fun k => by
  split
  · exact rd_fail _ (by decide)
  · split
    · exact rd_pure _
    · refine rd_bind (rd_nums _ _) fun l => rd_bind rd_byte fun n => ?_
      split
      · exact rd_fail _ (by decide)
      · exact rd_bind (rd_reqs _ _) fun rs => rd_chk _ _ _
theorem to_nums : ∀ (r l : List Int), (∀ n ∈ r, 0 ≤ n ∧ n < 4611686018427387904) → RdTo (numsR r.length l) (numB r) (l ++ r)
  | [], l, _ => by
    have := to_pure (B := List Int) l
    rw [List.append_nil]; exact this
  | n :: r, l, h => by
    have hn := h n List.mem_cons_self
    have ih := to_nums r (l ++ [n]) (fun x hx => h x (List.mem_cons_of_mem _ hx))
    have e : numB (n :: r) = eight n.toNat ++ numB r := by simp [numB]
    have e2 : l ++ n :: r = (l ++ [n]) ++ r := by simp
    rw [e, e2, List.length_cons]
    exact to_bind (to_num hn.1 hn.2) ih
theorem to_reqs : ∀ (r l : List Rq), (∀ x ∈ r, mayRq x = true) → RdTo (reqsR r.length l) (rowB r) (l ++ r)
  | [], l, _ => by
    have := to_pure (B := List Rq) l
    rw [List.append_nil]; exact this
  | x :: r, l, h => by
    have hn := h x List.mem_cons_self
    have ih := to_reqs r (l ++ [x]) (fun y hy => h y (List.mem_cons_of_mem _ hy))
    have e : rowB (x :: r) = (putRq x).1 ++ rowB r := by simp [rowB]
    have e2 : l ++ x :: r = (l ++ [x]) ++ r := by simp
    rw [e, e2, List.length_cons]
    exact to_bind (to_rq hn) ih
theorem mayBat_fill {v : Int} {t : Tp} {m : Int} {rs : List Rq} (h : mayBat true v t m rs = true) : v = 0 ∧ t = ⟨0, 0⟩ ∧ m = 0 ∧ rs = [] := by
  rw [mayBat, if_pos rfl, decide_eq_true_eq] at h
  obtain ⟨h1, h2, h3, h4, h5⟩ := h
  obtain ⟨a, b⟩ := t
  dsimp only at h3 h4
  subst h1; subst h2; subst h3; subst h4
  exact ⟨rfl, rfl, rfl, List.length_eq_zero_iff.1 h5⟩
theorem to_bat {f : Bool} {v : Int} {t : Tp} {m : Int} {rs : List Rq} (h : mayBat f v t m rs = true) : RdTo getBat (putBat f v t m rs).1 (f, v, t, m, rs) := by
  cases f with
  | true =>
    obtain ⟨rfl, rfl, rfl, rfl⟩ := mayBat_fill h
    have e : (putBat true 0 ⟨0, 0⟩ 0 []).1 = [UInt8.ofNat (1 : Int).toNat] ++ [] := by rw [bat_p]; rfl
    rw [e]
    refine to_bind (to_byte (n := 1) (by decide) (by decide)) ?_
    rw [if_neg (by decide), if_pos rfl]
    exact to_pure _
  | false =>
    obtain ⟨m1, m2, m3, m4, m5, m6⟩ := mayBat_no h (by decide)
    have hgd := mayQ_all m6
    have e : (putBat false v t m rs).1 = [UInt8.ofNat (0 : Int).toNat] ++ (numB [v, t.view, t.slot, m] ++ ([UInt8.ofNat ((rs.length : Nat) : Int).toNat] ++ (rowB rs ++ []))) := by
      rw [putBat, if_pos h, if_neg (by decide), bodyB]; simp
    rw [e]
    refine to_bind (to_byte (n := 0) (by decide) (by decide)) ?_
    rw [if_neg (by decide), if_neg (by decide)]
    have hn := to_nums [v, t.view, t.slot, m] [] (fun n hn => by
      simp only [List.mem_cons, List.not_mem_nil, or_false] at hn
      rcases hn with rfl | rfl | rfl | rfl <;> omega)
    refine to_bind hn (to_bind (to_byte (n := (rs.length : Int)) (by omega) (by omega)) ?_)
    rw [if_neg (by omega), Int.toNat_natCast]
    have hr := to_reqs rs [] hgd
    exact to_bind hr (to_chk h)
theorem inv_nums : ∀ (n : Nat) (l : List Int), Inv (numsR n l) (fun L cs => ∃ r, L = l ++ r ∧ r.length = n ∧ cs = numB r)
  | 0, l => inv_pure ⟨[], by simp, rfl, rfl⟩
  | n + 1, l => inv_bind inv_num (fun x => inv_nums n (l ++ [x])) (by
      rintro x L cs ds ⟨_, _, rfl⟩ ⟨r, rfl, h, rfl⟩
      exact ⟨x :: r, by simp, by simp [h], by simp [numB]⟩)
theorem inv_reqs : ∀ (n : Nat) (l : List Rq), Inv (reqsR n l) (fun L cs => ∃ r, L = l ++ r ∧ r.length = n ∧ cs = rowB r)
  | 0, l => inv_pure ⟨[], by simp, rfl, rfl⟩
  | n + 1, l => inv_bind inv_rq (fun x => inv_reqs n (l ++ [x])) (by
      rintro x L cs ds ⟨_, rfl⟩ ⟨r, rfl, h, rfl⟩
      exact ⟨x :: r, by simp, by simp [h], by simp [rowB]⟩)
def InvBat (z : Bool × Int × Tp × Int × List Rq) (cs : List UInt8) : Prop := cs = (putBat z.1 z.2.1 z.2.2.1 z.2.2.2.1 z.2.2.2.2).1
theorem inv_bat : Inv getBat InvBat := by
  refine inv_bind inv_byte (Q2 := fun k z ds => (k = 1 ∧ ds = [] ∧ z = (true, 0, ⟨0, 0⟩, 0, [])) ∨ ((0 ≤ k → k = 0) ∧ z.1 = false ∧ mayBat z.1 z.2.1 z.2.2.1 z.2.2.2.1 z.2.2.2.2 = true ∧ ds = numB [z.2.1, z.2.2.1.view, z.2.2.1.slot, z.2.2.2.1] ++ (UInt8.ofNat z.2.2.2.2.length :: rowB z.2.2.2.2))) (fun k => inv_if (fun _ => inv_fail (by decide)) fun h1 => inv_if (fun h2 => inv_pure (.inl ⟨h2, rfl, rfl⟩)) fun h2 => ?_) ?_
  · refine inv_bind (inv_nums 4 []) (Q2 := fun l z ds => (0 ≤ k → k = 0) ∧ z.1 = false ∧ z.2.1 = l.getD 0 0 ∧ z.2.2.1 = ⟨l.getD 1 0, l.getD 2 0⟩ ∧ z.2.2.2.1 = l.getD 3 0 ∧ mayBat z.1 z.2.1 z.2.2.1 z.2.2.2.1 z.2.2.2.2 = true ∧ ds = UInt8.ofNat z.2.2.2.2.length :: rowB z.2.2.2.2) (fun l => ?_) ?_
    · refine inv_bind inv_byte (Q2 := fun n z ds => (0 ≤ n → z.2.2.2.2.length = n.toNat) ∧ (0 ≤ k → k = 0) ∧ z.1 = false ∧ z.2.1 = l.getD 0 0 ∧ z.2.2.1 = ⟨l.getD 1 0, l.getD 2 0⟩ ∧ z.2.2.2.1 = l.getD 3 0 ∧ mayBat z.1 z.2.1 z.2.2.1 z.2.2.2.1 z.2.2.2.2 = true ∧ ds = rowB z.2.2.2.2) (fun n => inv_if (fun _ => inv_fail (by decide)) fun h3 => ?_) ?_
      · refine inv_bind (inv_reqs n.toNat []) (Q2 := fun rs z ds => z = (false, l.getD 0 0, ⟨l.getD 1 0, l.getD 2 0⟩, l.getD 3 0, rs) ∧ mayBat false (l.getD 0 0) ⟨l.getD 1 0, l.getD 2 0⟩ (l.getD 3 0) rs = true ∧ ds = []) (fun rs => inv_chk fun h => ⟨rfl, h, rfl⟩) ?_
        rintro rs z cs ds ⟨r, h5, h4, rfl⟩ ⟨rfl, h, rfl⟩
        rw [List.nil_append] at h5
        subst h5
        exact ⟨fun _ => h4, fun h0 => by omega, rfl, rfl, rfl, rfl, h, by simp⟩
      · rintro n z cs ds ⟨n0, n1, rfl⟩ ⟨hl, h0, hf, e1, e2, e3, h, rfl⟩
        refine ⟨h0, hf, e1, e2, e3, h, ?_⟩
        rw [hl n0]; rfl
    · rintro l z cs ds ⟨r, rfl, h4, rfl⟩ ⟨h0, hf, e1, e2, e3, h, rfl⟩
      refine .inr ⟨h0, hf, h, ?_⟩
      obtain ⟨l0, l1, l2, l3, rfl⟩ := four_of h4
      rw [e1, e2, e3]; rfl
  · rintro k z cs ds ⟨k0, k1, rfl⟩ (⟨rfl, rfl, rfl⟩ | ⟨h0, hf, h, rfl⟩)
    · rw [InvBat, bat_p]; rfl
    · obtain ⟨f, v, t, m, rs⟩ := z
      dsimp only at hf h ⊢
      subst hf
      rw [h0 k0, InvBat, putBat, if_pos h, if_neg (by show ¬ (false = true); decide)]; rfl
theorem bat_len {f : Bool} {v : Int} {t : Tp} {m : Int} {rs : List Rq} (h : mayBat f v t m rs = true) : 1 ≤ (putBat f v t m rs).1.length ∧ (putBat f v t m rs).1.length ≤ 200 := by
  cases f with
  | true => rw [putBat, if_pos h, if_pos rfl]; decide
  | false =>
    have h5 := (mayBat_no h (by decide)).2.2.2.2.1
    have := rowB_len rs
    have h2 := numB_len [v, t.view, t.slot, m]
    rw [putBat, if_pos h, if_neg (by decide), bodyB]
    simp only [List.length_cons, List.length_append, List.length_nil] at h2 ⊢
    omega
theorem xor_u8' (a : UInt8) (by_ : Int) (h0 : 0 ≤ by_) (h1 : by_ < 256) : bits .xor .u8 (a.toNat : Int) by_ = ((a ^^^ UInt8.ofNat by_.toNat).toNat : Int) := by
  have h := xor_u8 a (UInt8.ofNat by_.toNat)
  have e : ((UInt8.ofNat by_.toNat).toNat : Int) = by_ := by rw [UInt8.toNat_ofNat']; omega
  rw [e] at h
  exact h
/-- A byte turned: what is read up to the end is the same batch just if the byte is the same. -/
theorem bat_turn {f : Bool} {v : Int} {t : Tp} {m : Int} {rs : List Rq} (h : mayBat f v t m rs = true) {i : Nat} {x : UInt8} (hx : (putBat f v t m rs).1[i]? = some x) {b : Int} (b0 : 0 ≤ b) (b1 : b < 256)
    (ho : (getBat ((putBat f v t m rs).1.set i (x ^^^ UInt8.ofNat b.toNat)) 0).2.2 = 0) (he : (getBat ((putBat f v t m rs).1.set i (x ^^^ UInt8.ofNat b.toNat)) 0).2.1 = (putBat f v t m rs).1.length) :
    sameBat (getBat ((putBat f v t m rs).1.set i (x ^^^ UInt8.ofNat b.toNat)) 0).1.1 (getBat ((putBat f v t m rs).1.set i (x ^^^ UInt8.ofNat b.toNat)) 0).1.2.1 ⟨(getBat ((putBat f v t m rs).1.set i (x ^^^ UInt8.ofNat b.toNat)) 0).1.2.2.1.view, (getBat ((putBat f v t m rs).1.set i (x ^^^ UInt8.ofNat b.toNat)) 0).1.2.2.1.slot⟩ (getBat ((putBat f v t m rs).1.set i (x ^^^ UInt8.ofNat b.toNat)) 0).1.2.2.2.1 (getBat ((putBat f v t m rs).1.set i (x ^^^ UInt8.ofNat b.toNat)) 0).1.2.2.2.2 f v t m rs = decide (b = 0) := by
  have hto := to_bat h
  generalize hp : (putBat f v t m rs).1 = p at *
  have hi := lt_of_get hx
  have hxor := xor_same x (UInt8.ofNat b.toNat)
  rw [UInt8.toNat_ofNat'] at hxor
  have hh : ∃ e : Nat, (getBat (p.set i (x ^^^ UInt8.ofNat b.toNat)) 0).2.1 = (e : Int) ∧ 0 ≤ e ∧ InvBat (getBat (p.set i (x ^^^ UInt8.ofNat b.toNat)) 0).1 (((p.set i (x ^^^ UInt8.ofNat b.toNat)).drop 0).take (e - 0)) := inv_bat _ 0 ho
  obtain ⟨e, h1, h2, h3⟩ := hh
  rw [h1] at he
  have he2 : e = p.length := by omega
  rw [List.drop_zero, Nat.sub_zero, List.take_of_length_le (by rw [List.length_set]; omega), InvBat] at h3
  by_cases q : b = 0
  · have hs : p.set i (x ^^^ UInt8.ofNat b.toNat) = p := by
      have : x ^^^ UInt8.ofNat b.toNat = x := hxor.2 (by omega)
      rw [this]
      refine List.ext_getElem? fun j => ?_
      rw [List.getElem?_set]
      by_cases e : i = j
      · subst e; rw [if_pos rfl, if_pos hi, hx]
      · rw [if_neg e]
    have h4 := hto [] []
    rw [List.nil_append, List.append_nil] at h4
    have h5 : getBat p 0 = ((f, v, t, m, rs), ((0 : Nat) : Int) + p.length, 0) := h4
    rw [hs, h5, decide_eq_true q, sameBat]
    exact decide_eq_true ⟨rfl, rfl, rfl, rfl, rfl, rfl⟩
  · rw [decide_eq_false q, sameBat]
    refine decide_eq_false fun hs => q ?_
    obtain ⟨g1, g2, g3, g4, g5, g6⟩ := hs
    have ht : (getBat (p.set i (x ^^^ UInt8.ofNat b.toNat)) 0).1.2.2.1 = t := by
      generalize (getBat (p.set i (x ^^^ UInt8.ofNat b.toNat)) 0).1.2.2.1 = u at *
      obtain ⟨u1, u2⟩ := u
      obtain ⟨t1, t2⟩ := t
      dsimp only at g3 g4
      rw [g3, g4]
    rw [g1, g2, ht, g5, g6, hp] at h3
    have h6 : (p.set i (x ^^^ UInt8.ofNat b.toNat))[i]? = p[i]? := by rw [h3]
    rw [List.getElem?_set_self hi, hx] at h6
    have h7 := hxor.1 (Option.some.inj h6)
    omega
end Go.Proofs.Ytalieccfdmokmaa
