/-
  The walks of layer 14's functions: an acceptor and its votes; what is promised, what is accepted.
-/
import Derived.Test.YtalieccfdmokmaaVBnB
import Derived.Test.YtalieccfdmokmaaVIns
import Derived.Test.YtalieccfdmokmaaVPut
namespace Go.Proofs.Ytalieccfdmokmaa
set_option linter.unusedSimpArgs false
set_option linter.unusedVariables false
set_option maxRecDepth 20000
open Go.V Go.RowKit Go.ChangeShapes Go.WideShapes

structure Vt where
  slot : Int
  ballot : Int
  batch : Bat
def Vt.L (a : Vt) : List Value := [.int .i64 a.slot, .int .i64 a.ballot, .bool a.batch.fill, .int .i64 a.batch.view, .int .i64 a.batch.tip.view, .int .i64 a.batch.tip.slot, .int .i64 a.batch.time, a.batch.reqs]
instance : Row Vt := ⟨8, Vt.L, ⟨0, 0, ⟨false, 0, ⟨0, 0⟩, 0, .slice none 0 0⟩⟩, fun _ => rfl, rfl⟩
def Vt.Good (w : World) (a : Vt) : Prop := I64 a.slot ∧ I64 a.ballot ∧ Bat.Good w a.batch
theorem Vt.opens : Opens Try.prog (α := Vt) 61 Vt.Good := fun H enc w base spare held fuel cs x hl h => by
  obtain ⟨u0, u1, u2, u3, u4, u5, u6, u7, rfl⟩ := list8 hl
  obtain ⟨m0, hf0⟩ := open_fields Try.underlying61 h
  obtain ⟨y0, t0⟩ := hf0 0 _ 1 rfl (by kernel_rfl)
  obtain ⟨a0, e0, -, w0⟩ := DataW.trod_int Try.underlying3 t0
  obtain rfl : u0 = _ := by simpa using e0
  obtain ⟨y1, t1⟩ := hf0 1 _ 1 rfl (by kernel_rfl)
  obtain ⟨a1, e1, -, w1⟩ := DataW.trod_int Try.underlying3 t1
  obtain rfl : u1 = _ := by simpa using e1
  obtain ⟨y2, t2⟩ := hf0 2 _ 6 rfl (by kernel_rfl)
  obtain ⟨a2, e2, o2, g2⟩ := Bat.opens H enc w base spare held _ _ _ rfl t2
  have q2 : [u2, u3, u4, u5, u6, u7] = Row.cells a2 := e2.symm
  simp only [Row.cells, Bat.L, List.cons.injEq, and_true] at q2
  obtain ⟨rfl, rfl, rfl, rfl, rfl, rfl⟩ := q2
  have := List.all_eq_true.1 o2 (a2.reqs) (by simp [Row.cells, Bat.L])
  exact ⟨⟨a0, a1, a2⟩, rfl, (by first | rfl | (simp only [Row.cells, Vt.L, Bat.L]; repeat (first | rfl | refine Bool.and_eq_true_iff.2 ⟨(by first | rfl | assumption), ?_⟩))), ⟨i64_wf w0, i64_wf w1, g2⟩⟩
/-- A vote, its requests read. -/
structure Vm where
  slot : Int
  ballot : Int
  fill : Bool
  view : Int
  tip : Tp
  time : Int
  rs : List Rq
deriving DecidableEq
def VtR (F : Nat → Prop) (w : World) (r : Vt) (m : Vm) : Prop := r.slot = m.slot ∧ r.ballot = m.ballot ∧ r.batch.fill = m.fill ∧ r.batch.view = m.view ∧ r.batch.tip = m.tip ∧ r.batch.time = m.time ∧ Rs F w r.batch.reqs m.rs
theorem VtR.up {F V : Nat → Prop} {w w' : World} {r : Vt} {m : Vm} (h : VtR F w r m) (e : Ext V w w') (hd : ∀ b, F b → ¬ V b) : VtR F w' r m := ⟨h.1, h.2.1, h.2.2.1, h.2.2.2.1, h.2.2.2.2.1, h.2.2.2.2.2.1, h.2.2.2.2.2.2.up e hd⟩
theorem VtR.up0 {F : Nat → Prop} {w w' : World} {r : Vt} {m : Vm} (h : VtR F w r m) (e : Ext0 w w') : VtR F w' r m := ⟨h.1, h.2.1, h.2.2.1, h.2.2.2.1, h.2.2.2.2.1, h.2.2.2.2.2.1, h.2.2.2.2.2.2.up0 e⟩
theorem VtR.mono {F K : Nat → Prop} {w : World} {r : Vt} {m : Vm} (h : VtR F w r m) (hK : ∀ b, F b → K b) : VtR K w r m := ⟨h.1, h.2.1, h.2.2.1, h.2.2.2.1, h.2.2.2.2.1, h.2.2.2.2.2.1, h.2.2.2.2.2.2.mono fun b _ hb => hK b hb⟩
theorem vtr_key {F : Nat → Prop} {w : World} : ∀ a b, VtR F w a b → Vt.slot a = Vm.slot b := fun a b h => h.1
def VtsA (F : Nat → Prop) (raws : List Vt) (ms : List Vm) (w : World) : Prop := All2 (VtR F w) raws ms
theorem vts_st {F : Nat → Prop} {raws : List Vt} {ms : List Vm} : Ch.St F (VtsA F raws ms) := fun V w w' h e hd => All2.mono (fun _ _ q => q.up e hd) h
theorem VtsA.mono {F K : Nat → Prop} {w : World} {rs : List Vt} {ms : List Vm} (h : VtsA F rs ms w) (hK : ∀ b, F b → K b) : VtsA K rs ms w := All2.mono (fun _ _ q => q.mono hK) h
theorem VtsA.up0 {F : Nat → Prop} {w w' : World} {rs : List Vt} {ms : List Vm} (h : VtsA F rs ms w) (e : Ext0 w w') : VtsA F rs ms w' := All2.mono (fun _ _ q => q.up0 e) h
theorem all2_filt {α β : Type} {R : α → β → Prop} {k : α → Int} {k' : β → Int} (hk : ∀ a b, R a b → k a = k' b) (p : Int → Bool) : ∀ {xs : List α} {bs : List β}, All2 R xs bs → All2 R (xs.filter fun x => p (k x)) (bs.filter fun x => p (k' x))
  | [], [], _ => trivial
  | x :: xs, y :: bs, h => by
    rw [List.filter_cons, List.filter_cons, hk x y h.1]
    cases p (k' y) with
    | true => exact ⟨h.1, all2_filt hk p h.2⟩
    | false => exact all2_filt hk p h.2
/-- May a vote's batch be? -/
def mayV (m : Vm) : Bool := mayBat m.fill m.view m.tip m.time m.rs
theorem mayBat_len {f : Bool} {v : Int} {t : Tp} {m : Int} {rs : List Rq} (h : mayBat f v t m rs = true) : rs.length ≤ 3 := by
  rw [mayBat] at h
  split at h
  · have := of_decide_eq_true h; omega
  · rw [Bool.and_eq_true, Bool.and_eq_true] at h
    exact of_decide_eq_true h.1.2
/-- The vote for a batch. -/
def vmB (sl b : Int) (x : Bat) (rs : List Rq) : Vm := ⟨sl, b, x.fill, x.view, x.tip, x.time, rs⟩
structure AcS where
  ballot : Int
  done : Int
  l : List Vm
/-- An acceptor is as it should be. -/
structure OkS (s : AcS) : Prop where
  b0 : 0 ≤ s.ballot
  b1 : s.ballot ≤ 2305843009213693952
  d0 : 0 ≤ s.done
  d1 : s.done ≤ 2305843009213693952
  up : UpK Vm.slot s.l
  all : ∀ m ∈ s.l, s.done < m.slot ∧ m.slot ≤ s.done + 9 ∧ m.slot ≤ 2305843009213693952 ∧ 0 ≤ m.ballot ∧ m.ballot ≤ s.ballot ∧ mayV m = true
theorem upK_room {α : Type} {k : α → Int} : ∀ {l : List α} {a : Int} {n : Nat}, UpK k l → (∀ x ∈ l, a < k x ∧ k x ≤ a + n) → l.length ≤ n
  | [], a, n, _, _ => by simp
  | x :: l, a, n, h, hr => by
    obtain ⟨t, u⟩ := h.tail
    have h0 := hr x (by simp)
    have ih := upK_room (l := l) (a := k x) (n := (a + n - k x).toNat) t (fun y hy => by have h1 := u y hy; have h2 := hr y (by simp [hy]); omega)
    rw [List.length_cons]; omega
theorem OkS.len {s : AcS} (h : OkS s) : s.l.length ≤ 9 := upK_room (a := s.done) (n := 9) h.up fun m hm => by have := h.all m hm; omega
/-- What is promised, and the code. -/
def promM (s : AcS) (b : Int) : AcS × Int := if highM b 0 = true then (if b < s.ballot then (s, 11) else (⟨b, s.done, s.l⟩, 0)) else (s, 1)
/-- What is accepted, and the code. -/
def accM (s : AcS) (m : Vm) : AcS × Int :=
  if highM m.ballot 0 = true ∧ 1 ≤ m.slot ∧ m.slot ≤ 2305843009213693952 ∧ mayV m = true then
    if m.ballot < s.ballot ∨ m.slot ≤ s.done then (s, 11) else if 9 < m.slot - s.done then (s, 5) else (⟨m.ballot, s.done, putK Vm.slot s.l m⟩, 0)
  else (s, 1)
def trimM (s : AcS) (d : Int) : AcS := if d ≤ s.done ∨ 2305843009213693952 < d then s else ⟨s.ballot, d, s.l.filter fun m => !decide (m.slot ≤ d)⟩
theorem acc_no {s : AcS} {m : Vm} (h : ¬ (highM m.ballot 0 = true ∧ 1 ≤ m.slot ∧ m.slot ≤ 2305843009213693952 ∧ mayV m = true)) : accM s m = (s, 1) := by rw [accM, if_neg h]
theorem acc_old {s : AcS} {m : Vm} (h : highM m.ballot 0 = true ∧ 1 ≤ m.slot ∧ m.slot ≤ 2305843009213693952 ∧ mayV m = true) (k : m.ballot < s.ballot ∨ m.slot ≤ s.done) : accM s m = (s, 11) := by rw [accM, if_pos h, if_pos k]
theorem acc_full {s : AcS} {m : Vm} (h : highM m.ballot 0 = true ∧ 1 ≤ m.slot ∧ m.slot ≤ 2305843009213693952 ∧ mayV m = true) (k : ¬ (m.ballot < s.ballot ∨ m.slot ≤ s.done)) (q : 9 < m.slot - s.done) : accM s m = (s, 5) := by rw [accM, if_pos h, if_neg k, if_pos q]
theorem acc_put {s : AcS} {m : Vm} (h : highM m.ballot 0 = true ∧ 1 ≤ m.slot ∧ m.slot ≤ 2305843009213693952 ∧ mayV m = true) (k : ¬ (m.ballot < s.ballot ∨ m.slot ≤ s.done)) (q : ¬ 9 < m.slot - s.done) : accM s m = (⟨m.ballot, s.done, putK Vm.slot s.l m⟩, 0) := by rw [accM, if_pos h, if_neg k, if_neg q]
theorem prom_ok {s : AcS} (b : Int) (h : OkS s) : OkS (promM s b).1 := by
  unfold promM
  split
  · rename_i hb
    rw [highM_t] at hb
    split
    · exact h
    · exact ⟨hb.1, hb.2, h.d0, h.d1, h.up, fun m hm => by have := h.all m hm; dsimp only; exact ⟨this.1, this.2.1, this.2.2.1, this.2.2.2.1, by omega, this.2.2.2.2.2⟩⟩
  · exact h
theorem acc_ok {s : AcS} (m : Vm) (h : OkS s) : OkS (accM s m).1 := by
  unfold accM
  split
  · rename_i hb
    obtain ⟨hb, h1, h2, h3⟩ := hb
    rw [highM_t] at hb
    split
    · exact h
    · split
      · exact h
      · refine ⟨hb.1, hb.2, h.d0, h.d1, putK_up h.up, fun x hx => ?_⟩
        dsimp only
        rcases putK_mem hx with rfl | hx
        · exact ⟨by omega, by omega, h2, hb.1, Int.le_refl _, h3⟩
        · have := h.all x hx
          exact ⟨this.1, this.2.1, this.2.2.1, this.2.2.2.1, by omega, this.2.2.2.2.2⟩
  · exact h
theorem trim_ok {s : AcS} (d : Int) (h : OkS s) : OkS (trimM s d) := by
  unfold trimM
  split
  · exact h
  · refine ⟨h.b0, h.b1, by have := h.d0; dsimp only; omega, by dsimp only; omega, UpK.of (h.up.pair.filter _), fun x hx => ?_⟩
    obtain ⟨hx, hq⟩ := List.mem_filter.1 hx
    have := h.all x hx
    rw [Bool.not_eq_true', decide_eq_false_iff_not] at hq
    dsimp only
    exact ⟨by omega, by omega, this.2.2.1, this.2.2.2.1, this.2.2.2.2.1, this.2.2.2.2.2⟩
/-- The program's acceptor. -/
def AccA (p : Nat) (s : AcS) (FN : Nat → Prop) (w : World) : Prop :=
  OkS s ∧ ∃ v raws g F, ObjA FN w [.B p 117 [.int .i64 s.ballot, .int .i64 s.done, v], .O 61 v raws g, .P F (VtsA F raws s.l)]
theorem acc_st {p : Nat} {s : AcS} {FN : Nat → Prop} : Ch.St FN (AccA p s FN) := fun V w w' h e hd => by
  obtain ⟨hs, v, raws, g, F, h⟩ := h
  exact ⟨hs, v, raws, g, F, h.up e hd⟩
theorem AccA.lt {p : Nat} {s : AcS} {FN : Nat → Prop} {w : World} (h : AccA p s FN w) : ∀ b, FN b → b < w.heap.size := by
  obtain ⟨_, _, _, _, _, h⟩ := h
  exact h.2
theorem AccA.upx {p : Nat} {s : AcS} {FN : Nat → Prop} {w w' : World} (h : AccA p s FN w) (e : Ext0 w w') : AccA p s FN w' := acc_st Non w w' h e (fun _ _ q => q)
theorem AccA.mkL {U G : Nat → Prop} {w0 w : World} {L : List Ch} {p : Nat} {b d : Int} {v : Value} {raws : List Vt} {g : Option Nat} {F : Nat → Prop} {ms : List Vm} (hs : OkS ⟨b, d, ms⟩)
    (H : SH U G w0 w ([.B p 117 [.int .i64 b, .int .i64 d, v], .O 61 v raws g, .P F (VtsA F raws ms)] ++ L)) : ∃ FN, SH U G w0 w (.P FN (AccA p ⟨b, d, ms⟩ FN) :: L) :=
  ⟨_, SH.pack (A := AccA p ⟨b, d, ms⟩ (foot [.B p 117 [.int .i64 b, .int .i64 d, v], .O 61 v raws g, .P F (VtsA F raws ms)])) H ⟨trivial, trivial, trivial, trivial⟩ acc_st (fun h => ⟨hs, v, raws, g, F, h⟩)⟩
theorem AccA.mk {U G : Nat → Prop} {w0 w : World} {p : Nat} {b d : Int} {v : Value} {raws : List Vt} {g : Option Nat} {F : Nat → Prop} {ms : List Vm} (hs : OkS ⟨b, d, ms⟩)
    (H : SH U G w0 w [.B p 117 [.int .i64 b, .int .i64 d, v], .O 61 v raws g, .P F (VtsA F raws ms)]) : ∃ FN, SH U Non w0 w [.P FN (AccA p ⟨b, d, ms⟩ FN)] :=
  have ⟨FN, K⟩ := AccA.mkL (L := []) hs H
  ⟨FN, SH.give (M := [.P _ _]) K (List.Sublist.refl _) ⟨trivial, trivial⟩⟩
/-- No votes, and no requests of theirs. -/
theorem addVs {U G : Nat → Prop} {w0 w : World} {L : List Ch} (H : SH U G w0 w L) : SH U G w0 w (L ++ [.P Non (VtsA Non [] [])]) :=
  H.call ⟨Ext.refl _ _, Val.one ⟨trivial, vts_st, fun b h => h.elim, fun _ b h => h.elim, fun b h => h.elim⟩⟩

theorem BsV_c {F : Nat → Prop} {v fv tv : Value} {xs : List Vt} {c : Vt → Int} (w : World) (hv : Rs F w v xs) (hp : CmpF Try.prog fv agg tv c) (hn : xs.length ≤ 1000000) (hmono : Rising c xs) :
    Calls Try.prog 73 #[v, tv, fv] w fun e w' => e = .returned (.tuple #[.int .i64 (lowB c xs), .bool (hitB c xs)]) ∧ Ext0 w w' := by
  have H := (SH.start w).arg hv
  obtain ⟨f, fs, cs, rfl, hcf, hcall⟩ := hp
  refine calls_of_CW Try.func73 rfl Try.ntmps73 (Nat.le_of_ble_eq_true rfl) ?_
  simp only [argE, argFrom, Nat.reduceAdd]
  refine CW.seq (fun K1 h1 => ?_)
  refine CW.region ?_
  refine r_assign rfl ?_
  refine r_assign rfl ?_
  refine LW.nil ?_
  refine thenE_norm (h1 _ _ ?_); clear h1; try clear K1
  refine CW.seq (fun K2 h2 => ?_)
  refine CW.region ?_
  refine r_move rfl ?_
  first
    | refine r_lenV rfl Try.underlying58 (by simp only [upd_get, ev, Nat.reduceEqDiff, ↓reduceIte] <;> rfl) (by first | assumption | exact SH.rsR H (by (repeat first | exact At.here | apply At.there); done) | exact SH.rsO H (by (repeat first | exact At.here | apply At.there); done) | exact (Rs.nil : Rs Non _ _ _)) ?_
    | refine r_len rfl Try.underlying58 rfl ?_
  refine r_assign rfl ?_
  refine LW.nil ?_
  refine thenE_norm (h2 _ _ ?_); clear h2; try clear K2
  refine CW.seq (fun K3 h3 => ?_)
  refine CW.region ?_
  refine r_move rfl ?_
  refine r_assign rfl ?_
  refine r_assign rfl ?_
  refine LW.nil ?_
  refine thenE_norm ?_
  refine cut (K := K3) [0, 1, 2, 8, 9, 10] (fun σ => ?_)
  simp only [setL, keepE, upd_get, ev, Nat.reduceEqDiff, ↓reduceIte]
  refine h3 _ _ ?_; clear h3; try clear K3
  refine CW.seq (fun K4 h4 => ?_)
  refine CW.block ?_
  refine CW.loopR [0, 1, 2, 8] [9, 10] (fun m vs w' => ∃ i j : Nat, vs = [.int .i64 i, .int .i64 j] ∧ i ≤ j ∧ j ≤ xs.length ∧ m = j - i ∧ (∀ (k : Nat) (x : Vt), k < i → xs[k]? = some x → c x < 0) ∧ (∀ (k : Nat) (x : Vt), j ≤ k → xs[k]? = some x → 0 ≤ c x) ∧ SH Non Any w w' [.R (Old w) v xs]) (xs.length) ?_ ?_
  · exact ⟨0, xs.length, rfl, by omega, by omega, by omega, fun k x hk => by omega, fun k x hk hx => by have := lt_of_get hx; omega, H⟩
  try clear H
  rintro n1 vs1 wL1 σ ⟨i, j, rfl, hij, hj, rfl, hlo, hhi, H⟩
  simp only [setL, keepE, upd_get, ev, Nat.reduceEqDiff, ↓reduceIte]
  refine CW.seq (fun K5 h5 => ?_)
  refine CW.seq (fun K6 h6 => ?_)
  refine CW.region ?_
  refine r_move rfl ?_
  refine r_move rfl ?_
  refine r_lss rfl rfl rfl ?_
  refine LW.nil ?_
  refine thenE_norm (h6 _ _ ?_); clear h6; try clear K6
  refine CW.cond rfl (fun hc1 => ?_) (fun hc1 => ?_)
  · try simp only [decide_eq_true_eq, decide_eq_false_iff_not, Bool.and_eq_true, Bool.or_eq_true, Bool.and_eq_false_iff, Bool.or_eq_false_iff, Bool.not_eq_true', Bool.not_eq_false', beq_iff_eq, bne_iff_ne, ne_eq, Decidable.not_not] at hc1
    refine CW.skip ?_
    refine thenE_norm (h5 _ _ ?_); clear h5; try clear K5
    refine CW.block ?_
    refine CW.seq (fun K7 h7 => ?_)
    have hh0 : i ≤ (i + j) / 2 := by omega
    have hh1 : (i + j) / 2 < j := by omega
    obtain ⟨x, hx⟩ := get_of_lt (show (i + j) / 2 < xs.length by omega)
    refine CW.region ?_
    refine r_move rfl ?_
    refine r_move rfl ?_
    refine r_add rfl rfl rfl (wr_i64 (by omega) (by omega)) ?_
    refine r_convI rfl Try.underlying3 Try.underlying147 rfl (wr_u64 (by omega) (by omega)) ?_
    refine r_shr rfl rfl rfl (by decide) (by decide) ?_
    rw [show ((i : Int) + (j : Int)) / 2 ^ (1 : Int).toNat = (((i + j) / 2 : Nat) : Int) from by show ((i : Int) + (j : Int)) / 2 = _; omega]
    refine r_convI rfl Try.underlying147 Try.underlying3 rfl (wr_i64 (by omega) (by omega)) ?_
    refine r_assign rfl ?_
    refine LW.nil ?_
    refine thenE_norm ?_
    refine cut (K := K7) [0, 1, 2, 8, 9, 10, 11] (fun σ => ?_)
    simp only [setL, keepE, upd_get, ev, Nat.reduceEqDiff, ↓reduceIte]
    refine h7 _ _ ?_; clear h7; try clear K7
    refine CW.seq (fun K8 h8 => ?_)
    refine CW.region ?_
    refine r_move rfl ?_
    refine r_move rfl ?_
    refine r_move rfl ?_
    refine r_indexAddrV rfl Try.underlying58 (by simp only [upd_get, ev, Nat.reduceEqDiff, ↓reduceIte] <;> rfl) rfl (by first | assumption | exact SH.rsR H (by (repeat first | exact At.here | apply At.there); done) | exact SH.rsO H (by (repeat first | exact At.here | apply At.there); done) | exact (Rs.nil : Rs Non _ _ _)) (by exact Try.sizeOf61) (by omega) (by omega) ?_
    refine r_loadA rfl Try.isAgg61 Try.sizeOf61 rfl (by first | exact Rs.cells0 (by first | assumption | exact SH.rsR H (by (repeat first | exact At.here | apply At.there); done) | exact SH.rsO H (by (repeat first | exact At.here | apply At.there); done) | exact (Rs.nil : Rs Non _ _ _)) (by assumption)) (by rfl) ?_
    refine r_move rfl ?_
    refine r_callV rfl rfl hcf (by simp only [List.map_cons, List.map_nil, List.map_toArray, List.toList_toArray, upd_get, ev, Nat.reduceEqDiff, ↓reduceIte] <;> rfl) rfl (hcall x _) ?_
    rintro _ w5_6 ⟨rfl, X⟩
    refine ⟨_, rfl, ?_⟩
    replace H := SH.same H X
    clear X
    refine r_lss rfl rfl rfl ?_
    refine LW.nil ?_
    refine thenE_norm ?_
    refine cut (K := K8) [0, 1, 2, 8, 9, 10, 11, 31] (fun σ => ?_)
    simp only [setL, keepE, upd_get, ev, Nat.reduceEqDiff, ↓reduceIte]
    refine h8 _ _ ?_; clear h8; try clear K8
    refine CW.cond rfl (fun hc2 => ?_) (fun hc2 => ?_)
    · try simp only [decide_eq_true_eq, decide_eq_false_iff_not, Bool.and_eq_true, Bool.or_eq_true, Bool.and_eq_false_iff, Bool.or_eq_false_iff, Bool.not_eq_true', Bool.not_eq_false', beq_iff_eq, bne_iff_ne, ne_eq, Decidable.not_not] at hc2
      refine CW.region ?_
      refine r_move rfl ?_
      refine r_add rfl rfl rfl (wr_i64 (by omega) (by omega)) ?_
      refine r_assign rfl ?_
      refine LW.nil ?_
      refine blockE_norm ?_
      refine thenE_norm ⟨rfl, ?_⟩
      exact ⟨j - ((i + j) / 2 + 1), by omega, (i + j) / 2 + 1, j, rfl, by omega, by omega, rfl, fun k y hk hy => hmono k ((i + j) / 2) y x (by omega) hy hx hc2, hhi, H⟩
    · try simp only [decide_eq_true_eq, decide_eq_false_iff_not, Bool.and_eq_true, Bool.or_eq_true, Bool.and_eq_false_iff, Bool.or_eq_false_iff, Bool.not_eq_true', Bool.not_eq_false', beq_iff_eq, bne_iff_ne, ne_eq, Decidable.not_not] at hc2
      refine CW.region ?_
      refine r_move rfl ?_
      refine r_assign rfl ?_
      refine LW.nil ?_
      refine blockE_norm ?_
      refine thenE_norm ⟨rfl, ?_⟩
      exact ⟨(i + j) / 2 - i, by omega, i, (i + j) / 2, rfl, by omega, by omega, rfl, hlo, fun k y hk hy => Int.not_lt.1 fun h => hc2 (hmono ((i + j) / 2) k x y hk hx hy h), H⟩
  · try simp only [decide_eq_true_eq, decide_eq_false_iff_not, Bool.and_eq_true, Bool.or_eq_true, Bool.and_eq_false_iff, Bool.or_eq_false_iff, Bool.not_eq_true', Bool.not_eq_false', beq_iff_eq, bne_iff_ne, ne_eq, Decidable.not_not] at hc1
    refine CW.exit (thenE_exit (thenE_exit (blockE_hit ?_)))
    refine thenE_norm (h4 _ _ ?_); clear h4; try clear K4
    refine CW.seq (fun K9 h9 => ?_)
    obtain rfl : i = j := by omega
    have hlow := lowB_eq hj hlo hhi
    refine CW.region ?_
    refine r_move rfl ?_
    refine r_move rfl ?_
    refine r_move rfl ?_
    refine r_lss rfl rfl rfl ?_
    refine r_move rfl ?_
    refine LW.splitB (t := 39) rfl (fun hg8_5 => ?_) (fun hg8_5 => ?_)
    · have hg8_5P := hg8_5
      try simp only [decide_eq_true_eq, decide_eq_false_iff_not, Bool.and_eq_true, Bool.or_eq_true, Bool.and_eq_false_iff, Bool.or_eq_false_iff, Bool.not_eq_true', Bool.not_eq_false', beq_iff_eq, bne_iff_ne] at hg8_5P
      refine LW.want rfl rfl hg8_5 ?_
      refine r_move rfl ?_
      refine LW.want rfl rfl hg8_5 ?_
      refine r_move rfl ?_
      refine LW.want rfl rfl hg8_5 ?_
      refine r_move rfl ?_
      obtain ⟨x, hx⟩ := get_of_lt (show i < xs.length by omega)
      refine LW.want rfl rfl hg8_5 ?_
      refine r_indexAddrV rfl Try.underlying58 (by simp only [upd_get, ev, Nat.reduceEqDiff, ↓reduceIte] <;> rfl) rfl (by first | assumption | exact SH.rsR H (by (repeat first | exact At.here | apply At.there); done) | exact SH.rsO H (by (repeat first | exact At.here | apply At.there); done) | exact (Rs.nil : Rs Non _ _ _)) (by exact Try.sizeOf61) (by omega) (by omega) ?_
      refine LW.want rfl rfl hg8_5 ?_
      refine r_loadA rfl Try.isAgg61 Try.sizeOf61 rfl (by first | exact Rs.cells0 (by first | assumption | exact SH.rsR H (by (repeat first | exact At.here | apply At.there); done) | exact SH.rsO H (by (repeat first | exact At.here | apply At.there); done) | exact (Rs.nil : Rs Non _ _ _)) (by assumption)) (by rfl) ?_
      refine LW.want rfl rfl hg8_5 ?_
      refine r_move rfl ?_
      refine LW.want rfl rfl hg8_5 ?_
      refine r_callV rfl rfl hcf (by simp only [List.map_cons, List.map_nil, List.map_toArray, List.toList_toArray, upd_get, ev, Nat.reduceEqDiff, ↓reduceIte] <;> rfl) rfl (hcall x _) ?_
      rintro _ w8_11 ⟨rfl, X⟩
      refine ⟨_, rfl, ?_⟩
      replace H := SH.same H X
      clear X
      refine LW.want rfl rfl hg8_5 ?_
      refine r_eql rfl rfl rfl ?_
      refine r_pickT rfl rfl hg8_5 ?_
      refine r_assign rfl ?_
      refine r_assign rfl ?_
      refine LW.nil ?_
      refine thenE_norm ?_
      refine cut (K := K9) [6, 7] (fun σ => ?_)
      simp only [setL, keepE, upd_get, ev, Nat.reduceEqDiff, ↓reduceIte]
      refine h9 _ _ ?_; clear h9; try clear K9
      refine CW.ret (ret2 Try.results73 (by simp only [upd_get, ev, Nat.reduceEqDiff, ↓reduceIte]; rfl) (by simp only [upd_get, ev, Nat.reduceEqDiff, ↓reduceIte]; rfl) ?_)
      rw [hitB, hlow, hx]
      exact ⟨rfl, H.ext⟩
    · have hg8_5P := hg8_5
      try simp only [decide_eq_true_eq, decide_eq_false_iff_not, Bool.and_eq_true, Bool.or_eq_true, Bool.and_eq_false_iff, Bool.or_eq_false_iff, Bool.not_eq_true', Bool.not_eq_false', beq_iff_eq, bne_iff_ne] at hg8_5P
      refine LW.skip rfl (fun _ e => by cases e; decide) rfl hg8_5 ?_
      refine LW.skip rfl (fun _ e => by cases e; decide) rfl hg8_5 ?_
      refine LW.skip rfl (fun _ e => by cases e; decide) rfl hg8_5 ?_
      refine LW.skip rfl (fun _ e => by cases e; decide) rfl hg8_5 ?_
      refine LW.skip rfl (fun _ e => by cases e; decide) rfl hg8_5 ?_
      refine LW.skip rfl (fun _ e => by cases e; decide) rfl hg8_5 ?_
      refine LW.skip rfl (fun _ e => by cases e; decide) rfl hg8_5 ?_
      refine LW.skip rfl (fun _ e => by cases e; decide) rfl hg8_5 ?_
      refine r_pickF rfl rfl hg8_5 ?_
      refine r_assign rfl ?_
      refine r_assign rfl ?_
      refine LW.nil ?_
      refine thenE_norm ?_
      refine cut (K := K9) [6, 7] (fun σ => ?_)
      simp only [setL, keepE, upd_get, ev, Nat.reduceEqDiff, ↓reduceIte]
      refine h9 _ _ ?_; clear h9; try clear K9
      refine CW.ret (ret2 Try.results73 (by simp only [upd_get, ev, Nat.reduceEqDiff, ↓reduceIte]; rfl) (by simp only [upd_get, ev, Nat.reduceEqDiff, ↓reduceIte]; rfl) ?_)
      have hno : xs[i]? = none := List.getElem?_eq_none (by omega)
      rw [hitB, hlow, hno]
      exact ⟨rfl, H.ext⟩
set_option maxRecDepth 20000 in
set_option maxHeartbeats 2000000 in
theorem InsV_c {v yv : Value} {xs : List Vt} {y : Vt} {g gy : Option Nat} (i : Nat) (w : World) (hv : Ow 61 w v xs g) (hy : Ow 61 w yv [y] gy) (hap : ∀ b, gy = some b → g ≠ some b) (hi : i ≤ xs.length) (hn : xs.length ≤ 1000000) :
    Calls Try.prog 76 #[v, .int .i64 i, yv] w fun e w' => ∃ v' g', e = .returned v' ∧ SH (fun b => g = some b) Non w w' [.O 61 v' (xs.take i ++ [y] ++ xs.drop i) g'] := by
  have h63 := hv.rs.len63
  have hyr := hy.rs
  have hyo := hy.2
  have hy1 : ([y] : List Vt).length = 1 := rfl
  have H := SH.anyG (SH.own1 hv)
  obtain ⟨bv, capv, cury, rfl, rfl, hncv, hcmv, hclv, hctv, -, Hy⟩ := SH.toB (SH.own1 hy) At.here (by simp)
  replace H := SH.argI (A := fun u => Blk u bv 61 cury) (F := fun k => k = bv) H (Hy.blk At.here) Ch.stB (fun b hb => by cases hb; exact Blk.lt (Hy.blk At.here)) (fun b hb h => hap b (by rw [hb]) h)
  have hfly : flat [y] = Row.cells y := by simp [flat]
  have hsrcY : ∀ u, Blk u bv 61 cury → Src Try.prog (Row.sz Vt) u (.slice (some ⟨bv, 0, none⟩) 1 capv) 1 (Row.cells y) := fun u hb =>
    Src.cells (by have := Cells.part (o := 0) hb.cellsAll (1 * Row.sz Vt); rw [List.drop_zero] at this; rw [← hfly, ← hctv]; exact this) (by rw [Row.len, Nat.one_mul]) (fun u hu => by have := hyo y (by simp); rw [List.all_eq_true] at this; exact this u hu)
  refine calls_of_CW Try.func76 rfl Try.ntmps76 (Nat.le_of_ble_eq_true rfl) ?_
  simp only [argE, argFrom, Nat.reduceAdd]
  refine CW.seq (fun K1 h1 => ?_)
  refine CW.region ?_
  refine r_assign rfl ?_
  refine LW.nil ?_
  refine thenE_norm (h1 _ _ ?_); clear h1; try clear K1
  refine CW.seq (fun K2 h2 => ?_)
  refine CW.region ?_
  refine r_move rfl ?_
  refine r_move rfl ?_
  refine r_sliceLV rfl Try.underlying58 (by simp only [upd_get, ev, Nat.reduceEqDiff, ↓reduceIte] <;> rfl) rfl (by first | assumption | exact SH.rsR H (by (repeat first | exact At.here | apply At.there); done) | exact SH.rsO H (by (repeat first | exact At.here | apply At.there); done) | exact Rs.toH (by first | assumption | exact SH.rsR H (by (repeat first | exact At.here | apply At.there); done) | exact SH.rsO H (by (repeat first | exact At.here | apply At.there); done)) (by omega) | exact Rs.toL (by first | assumption | exact SH.rsR H (by (repeat first | exact At.here | apply At.there); done) | exact SH.rsO H (by (repeat first | exact At.here | apply At.there); done)) (by omega) | exact Rs.toLH (by first | assumption | exact SH.rsR H (by (repeat first | exact At.here | apply At.there); done) | exact SH.rsO H (by (repeat first | exact At.here | apply At.there); done)) (by omega) (by omega) | exact (Rs.nil : Rs Non _ _ _)) (by exact Try.sizeOf61) (by omega) (by omega) ?_
  refine LW.nil ?_
  refine thenE_norm (h2 _ _ ?_); clear h2; try clear K2
  refine CW.seq (fun K3 h3 => ?_)
  refine CW.region ?_
  refine r_move rfl ?_
  refine r_lenW rfl Try.underlying58 (by simp only [upd_get, ev, Nat.reduceEqDiff, ↓reduceIte] <;> rfl) hyr ?_
  refine r_assign rfl ?_
  refine LW.nil ?_
  refine thenE_norm (h3 _ _ ?_); clear h3; try clear K3
  refine CW.seq (fun K4 h4 => ?_)
  refine CW.seq (fun K5 h5 => ?_)
  refine CW.region ?_
  refine r_move rfl ?_
  refine r_eql rfl rfl rfl ?_
  refine LW.nil ?_
  refine thenE_norm ?_
  refine cut (K := K5) [0, 1, 2, 7, 16] (fun σ => ?_)
  simp only [setL, keepE, upd_get, ev, Nat.reduceEqDiff, ↓reduceIte]
  refine h5 _ _ ?_; clear h5; try clear K5
  refine CW.condF rfl (by simp) ?_
  refine CW.skip ?_
  refine thenE_norm (h4 _ _ ?_); clear h4; try clear K4
  refine CW.seq (fun K6 h6 => ?_)
  refine CW.region ?_
  refine r_move rfl ?_
  first
    | refine r_lenV rfl Try.underlying58 (by simp only [upd_get, ev, Nat.reduceEqDiff, ↓reduceIte] <;> rfl) (by first | assumption | exact SH.rsR H (by (repeat first | exact At.here | apply At.there); done) | exact SH.rsO H (by (repeat first | exact At.here | apply At.there); done) | exact Rs.toH (by first | assumption | exact SH.rsR H (by (repeat first | exact At.here | apply At.there); done) | exact SH.rsO H (by (repeat first | exact At.here | apply At.there); done)) (by omega) | exact Rs.toL (by first | assumption | exact SH.rsR H (by (repeat first | exact At.here | apply At.there); done) | exact SH.rsO H (by (repeat first | exact At.here | apply At.there); done)) (by omega) | exact Rs.toLH (by first | assumption | exact SH.rsR H (by (repeat first | exact At.here | apply At.there); done) | exact SH.rsO H (by (repeat first | exact At.here | apply At.there); done)) (by omega) (by omega) | exact (Rs.nil : Rs Non _ _ _)) ?_
    | refine r_len rfl Try.underlying58 rfl ?_
  refine r_assign rfl ?_
  refine LW.nil ?_
  refine thenE_norm (h6 _ _ ?_); clear h6; try clear K6
  refine CW.seq (fun K7 h7 => ?_)
  refine CW.seq (fun K8 h8 => ?_)
  refine CW.region ?_
  refine r_move rfl ?_
  refine r_move rfl ?_
  refine r_eql rfl rfl rfl ?_
  refine LW.nil ?_
  refine thenE_norm (h8 _ _ ?_); clear h8; try clear K8
  refine CW.cond rfl (fun hc2 => ?_) (fun hc2 => ?_)
  · try simp only [decide_eq_true_eq, decide_eq_false_iff_not, Bool.and_eq_true, Bool.or_eq_true, Bool.and_eq_false_iff, Bool.or_eq_false_iff, Bool.not_eq_true', Bool.not_eq_false', beq_iff_eq, bne_iff_ne, ne_eq, Decidable.not_not] at hc2
    refine CW.seq (fun K9 h9 => ?_)
    refine CW.region ?_
    refine r_move rfl ?_
    refine r_move rfl ?_
    first
      | refine s_append H rfl Try.underlying58 Try.underlying58 Try.type61 rfl (by simp only [upd_get, ev, Nat.reduceEqDiff, ↓reduceIte] <;> rfl) (by simp only [upd_get, ev, Nat.reduceEqDiff, ↓reduceIte] <;> rfl) (by (repeat first | exact At.here | apply At.there); done) (by first | assumption | exact SH.rsR H (by (repeat first | exact At.here | apply At.there); done) | exact SH.rsO H (by (repeat first | exact At.here | apply At.there); done) | exact Rs.toH (by first | assumption | exact SH.rsR H (by (repeat first | exact At.here | apply At.there); done) | exact SH.rsO H (by (repeat first | exact At.here | apply At.there); done)) (by omega) | exact Rs.toL (by first | assumption | exact SH.rsR H (by (repeat first | exact At.here | apply At.there); done) | exact SH.rsO H (by (repeat first | exact At.here | apply At.there); done)) (by omega) | exact Rs.toLH (by first | assumption | exact SH.rsR H (by (repeat first | exact At.here | apply At.there); done) | exact SH.rsO H (by (repeat first | exact At.here | apply At.there); done)) (by omega) (by omega) | exact (Rs.nil : Rs Non _ _ _)) (by rfl) (by rfl) (by first | omega | (simp only [Try.t61, List.length_append, List.length_cons, List.length_nil, List.length_map, maxLen]; omega) | (simp [Try.t61, maxLen]; omega)) (by first | omega | (simp only [Try.t61, List.length_append, List.length_cons, List.length_nil, List.length_map, maxLen]; omega) | (simp [Try.t61, maxLen]; omega)) ?_
      | refine s_appendNil H rfl Try.underlying58 Try.underlying58 Try.type61 rfl rfl (by simp only [upd_get, ev, Nat.reduceEqDiff, ↓reduceIte] <;> rfl) (by first | assumption | exact SH.rsR H (by (repeat first | exact At.here | apply At.there); done) | exact SH.rsO H (by (repeat first | exact At.here | apply At.there); done) | exact Rs.toH (by first | assumption | exact SH.rsR H (by (repeat first | exact At.here | apply At.there); done) | exact SH.rsO H (by (repeat first | exact At.here | apply At.there); done)) (by omega) | exact Rs.toL (by first | assumption | exact SH.rsR H (by (repeat first | exact At.here | apply At.there); done) | exact SH.rsO H (by (repeat first | exact At.here | apply At.there); done)) (by omega) | exact Rs.toLH (by first | assumption | exact SH.rsR H (by (repeat first | exact At.here | apply At.there); done) | exact SH.rsO H (by (repeat first | exact At.here | apply At.there); done)) (by omega) (by omega) | exact (Rs.nil : Rs Non _ _ _)) (by rfl) (by rfl) (by first | omega | (simp only [Try.t61, List.length_append, List.length_cons, List.length_nil, List.length_map, maxLen]; omega) | (simp [Try.t61, maxLen]; omega)) ?_
    clear H
    intro v7_2 w7_2 g7_2 H hN7_2
    try dsimp only [replC, List.cons_append, List.nil_append, List.append_nil] at H
    refine r_assign rfl ?_
    refine LW.nil ?_
    refine thenE_norm ?_
    refine cut (K := K9) [6] (fun σ => ?_)
    simp only [setL, keepE, upd_get, ev, Nat.reduceEqDiff, ↓reduceIte]
    refine h9 _ _ ?_; clear h9; try clear K9
    refine CW.ret (thenE_ret (ret1 Try.results76 (by simp only [upd_get, ev, Nat.reduceEqDiff, ↓reduceIte]; rfl) ?_))
    obtain rfl : i = xs.length := by omega
    rw [List.take_length, List.drop_length, List.append_nil]
    exact ⟨_, _, rfl, SH.give H (by repeat first | exact List.Sublist.refl _ | exact List.nil_sublist _ | apply List.Sublist.cons_cons | apply List.Sublist.cons) ⟨trivial, trivial⟩⟩
  · try simp only [decide_eq_true_eq, decide_eq_false_iff_not, Bool.and_eq_true, Bool.or_eq_true, Bool.and_eq_false_iff, Bool.or_eq_false_iff, Bool.not_eq_true', Bool.not_eq_false', beq_iff_eq, bne_iff_ne, ne_eq, Decidable.not_not] at hc2
    refine CW.skip ?_
    refine thenE_norm (h7 _ _ ?_); clear h7; try clear K7
    refine CW.seq (fun K10 h10 => ?_)
    refine CW.seq (fun K11 h11 => ?_)
    have hil : i < xs.length := by omega
    obtain ⟨b, cap, cur, rfl, rfl, hnc, hcm, hcl, hct, hone, H⟩ := H.toB At.here (by rintro rfl; simp at hil)
    try dsimp only [replC, List.append_nil, List.cons_append, List.nil_append] at H
    have hc63 : cap ≤ 9223372036854775807 := by simpa [maxLen] using hcm
    have hfl := flat_len xs
    have hs0 : i * Row.sz Vt + (xs.length - i) * Row.sz Vt = xs.length * Row.sz Vt := by rw [← Nat.add_mul]; congr 1; omega
    have hs1 : xs.length * Row.sz Vt ≤ cap * Row.sz Vt := Nat.mul_le_mul_right _ hnc
    have hyl : (Row.cells y).length = Row.sz Vt := Row.len y
    have hdl : (flat (xs.drop i)).length = (xs.length - i) * Row.sz Vt := by rw [flat_len, List.length_drop]
    have hdo : ∀ u ∈ flat (xs.drop i), oneC u = true := (hone.drop i).flat
    have hneb : bv ≠ b := fun e => hap bv rfl (by rw [e])
    have hcti : cur.take (i * Row.sz Vt) = flat (xs.take i) := by rw [flat_take, ← hct, List.take_take, Nat.min_eq_left (by omega)]
    refine CW.region ?_
    refine r_move rfl ?_
    refine r_move rfl ?_
    refine r_add rfl rfl rfl (wr_i64 (by omega) (by omega)) ?_
    refine r_move rfl ?_
    refine r_cap rfl Try.underlying58 rfl ?_
    refine r_gtr rfl rfl rfl ?_
    refine LW.nil ?_
    refine thenE_norm ?_
    refine cut (K := K11) [0, 1, 2, 7, 8, 31] (fun σ => ?_)
    simp only [setL, keepE, upd_get, ev, Nat.reduceEqDiff, ↓reduceIte]
    refine h11 _ _ ?_; clear h11; try clear K11
    refine CW.cond rfl (fun hc3 => ?_) (fun hc3 => ?_)
    · try simp only [decide_eq_true_eq, decide_eq_false_iff_not, Bool.and_eq_true, Bool.or_eq_true, Bool.and_eq_false_iff, Bool.or_eq_false_iff, Bool.not_eq_true', Bool.not_eq_false', beq_iff_eq, bne_iff_ne, ne_eq, Decidable.not_not] at hc3
      refine CW.seq (fun K12 h12 => ?_)
      refine CW.region ?_
      refine r_move rfl ?_
      refine r_move rfl ?_
      refine r_sliceHc rfl Try.underlying58 Try.sizeOf61 rfl rfl (by omega) (by omega) ?_
      refine r_move rfl ?_
      refine r_move rfl ?_
      refine r_add rfl rfl rfl (wr_i64 (by omega) (by omega)) ?_
      refine r_move rfl ?_
      refine r_sub rfl rfl rfl (wr_i64 (by omega) (by omega)) ?_
      refine s_growB (s := Row.sz Vt) (p := i) (n := xs.length + 1 - i) (cs := flat (xs.take i)) H rfl Try.underlying58 Try.underlying3 Try.type61 rfl (by rfl) (by rfl) rfl rfl (by simp; omega) (by have := Cells.part (o := 0) (SH.cells H (by (repeat first | exact At.here | apply At.there); done)) (i * Row.sz Vt); rw [List.drop_zero, hcti] at this; exact this) (by rw [flat_len, List.length_take, Nat.min_eq_left hi]) (by simp at *; omega) (by first | omega | (simp only [Try.t61]; omega) | (simp [Try.t61]; omega)) (by simp only [maxLen]; omega) (by omega) rfl ?_
      clear H
      intro b2 w9 cap2 cur2 hnc2 hcm2 hcl2 hct2 H
      try dsimp only [List.append_nil, List.cons_append, List.nil_append] at H
      have hs2 : (xs.length + 1) * Row.sz Vt ≤ cap2 * Row.sz Vt := Nat.mul_le_mul_right _ (by omega)
      refine r_assign rfl ?_
      refine LW.nil ?_
      refine thenE_norm ?_
      refine cut (K := K12) [0, 1, 2, 7, 9] (fun σ => ?_)
      simp only [setL, keepE, upd_get, ev, Nat.reduceEqDiff, ↓reduceIte]
      refine h12 _ _ ?_; clear h12; try clear K12
      refine CW.seq (fun K13 h13 => ?_)
      refine CW.region ?_
      refine r_move rfl ?_
      refine r_move rfl ?_
      refine r_sliceLp rfl Try.underlying58 Try.sizeOf61 rfl rfl (by omega) (by omega) (by omega) ?_
      refine r_move rfl ?_
      refine s_copyB (m := 1) (q := 1) H rfl Try.underlying58 Try.type61 (by rfl) rfl rfl (At.there (At.there At.here)) (hsrcY _ (SH.propI H (i := 1) rfl)).2.2.1 (by omega) (hsrcY _ (SH.propI H (i := 1) rfl)).2.2.2.1 (hsrcY _ (SH.propI H (i := 1) rfl)).2.1 (hsrcY _ (SH.propI H (i := 1) rfl)).1 (by rw [hcl2]; show i * Row.sz Vt + 1 * Row.sz Vt ≤ _; rw [← Nat.add_mul]; exact Nat.mul_le_mul_right _ (by omega)) ?_
      clear H
      intro w10 H
      try dsimp only [replC, List.append_nil, List.cons_append, List.nil_append] at H
      refine LW.nil ?_
      refine thenE_norm (h13 _ _ ?_); clear h13; try clear K13
      refine CW.seq (fun K14 h14 => ?_)
      refine CW.drawP [] [] H (by dsimp only [pickC, nthC] <;> rfl) (by repeat first | exact List.Sublist.refl _ | exact List.nil_sublist _ | apply List.Sublist.cons_cons | apply List.Sublist.cons) (by kernel_rfl) rfl ?_
      clear H
      intro w11d H
      refine DL.take (i := 0) [] rfl (by kernel_rfl) (by kernel_rfl) (by kernel_rfl) (by kernel_rfl) rfl rfl (fun u H => x_move ) (SH.sub H (by repeat first | exact List.Sublist.refl _ | exact List.nil_sublist _ | apply List.Sublist.cons_cons | apply List.Sublist.cons)) ?_
      refine DL.take (i := 1) [] rfl (by kernel_rfl) (by kernel_rfl) (by kernel_rfl) (by kernel_rfl) rfl rfl (fun u H => x_move ) (SH.sub H (by repeat first | exact List.Sublist.refl _ | exact List.nil_sublist _ | apply List.Sublist.cons_cons | apply List.Sublist.cons)) ?_
      refine DL.take (i := 2) [] rfl (by kernel_rfl) (by kernel_rfl) (by kernel_rfl) (by kernel_rfl) rfl rfl (fun u H => x_move ) (SH.sub H (by repeat first | exact List.Sublist.refl _ | exact List.nil_sublist _ | apply List.Sublist.cons_cons | apply List.Sublist.cons)) ?_
      refine DL.take (i := 3) [] rfl (by kernel_rfl) (by kernel_rfl) (by kernel_rfl) (by kernel_rfl) rfl rfl (fun u H => x_add rfl rfl (wr_i64 (by omega) (by omega))) (SH.sub H (by repeat first | exact List.Sublist.refl _ | exact List.nil_sublist _ | apply List.Sublist.cons_cons | apply List.Sublist.cons)) ?_
      refine DL.take (i := 4) [] rfl (by kernel_rfl) (by kernel_rfl) (by kernel_rfl) (by kernel_rfl) rfl rfl (fun u H => x_sliceLp Try.underlying58 Try.sizeOf61 rfl rfl (by simp; omega) (by simp; omega) (by simp; omega)) (SH.sub H (by repeat first | exact List.Sublist.refl _ | exact List.nil_sublist _ | apply List.Sublist.cons_cons | apply List.Sublist.cons)) ?_
      refine DL.take (i := 5) [] rfl (by kernel_rfl) (by kernel_rfl) (by kernel_rfl) (by kernel_rfl) rfl rfl (fun u H => x_move ) (SH.sub H (by repeat first | exact List.Sublist.refl _ | exact List.nil_sublist _ | apply List.Sublist.cons_cons | apply List.Sublist.cons)) ?_
      refine DL.take (i := 6) [] rfl (by kernel_rfl) (by kernel_rfl) (by kernel_rfl) (by kernel_rfl) rfl rfl (fun u H => x_move ) (SH.sub H (by repeat first | exact List.Sublist.refl _ | exact List.nil_sublist _ | apply List.Sublist.cons_cons | apply List.Sublist.cons)) ?_
      refine DL.take (i := 7) [] rfl (by kernel_rfl) (by kernel_rfl) (by kernel_rfl) (by kernel_rfl) rfl rfl (fun u H => x_sliceLc Try.underlying58 Try.sizeOf61 rfl rfl (by omega) (by omega)) (SH.sub H (by repeat first | exact List.Sublist.refl _ | exact List.nil_sublist _ | apply List.Sublist.cons_cons | apply List.Sublist.cons)) ?_
      refine DL.one (i := 8) (by kernel_rfl) rfl rfl ?_
      have hsrc := Blk.tail (P := Try.prog) (H.blk At.here) hct hcl hnc hcm hone.flat hi
      refine s_copyB (m := xs.length - i) (q := xs.length - i) H rfl Try.underlying58 Try.type61 (by rfl) rfl rfl (At.there (At.there At.here)) hsrc.2.2.1 (by simp; omega) hsrc.2.2.2.1 hsrc.2.1 hsrc.1 (by erw [splice_len (by rw [hcl2, hyl]; show i * Row.sz Vt + Row.sz Vt ≤ _; rw [← Nat.succ_mul]; exact Nat.mul_le_mul_right _ (by omega)), hcl2]; show ((i : Int) + ([y].length : Nat)).toNat * Row.sz Vt + _ ≤ _; rw [← Nat.add_mul]; exact Nat.mul_le_mul_right _ (by simp; omega)) ?_
      clear H
      intro w11 H
      try dsimp only [replC, List.append_nil, List.cons_append, List.nil_append] at H
      refine LW.nil (thenE_norm ⟨fun _ => (SH.sub H (by repeat first | exact List.Sublist.refl _ | exact List.nil_sublist _ | apply List.Sublist.cons_cons | apply List.Sublist.cons)), ?_⟩)
      refine DL.done (by kernel_rfl) ?_
      refine thenE_norm ?_
      refine cut (K := K14) [9] (fun σ => ?_)
      simp only [setL, keepE, upd_get, ev, Nat.reduceEqDiff, ↓reduceIte]
      refine h14 _ _ ?_; clear h14; try clear K14
      refine CW.seq (fun K15 h15 => ?_)
      refine CW.region ?_
      refine r_move rfl ?_
      refine r_assign rfl ?_
      refine LW.nil ?_
      refine thenE_norm (h15 _ _ ?_); clear h15; try clear K15
      refine CW.ret (thenE_ret (ret1 Try.results76 (by simp only [upd_get, ev, Nat.reduceEqDiff, ↓reduceIte]; rfl) ?_))
      have hl2 : (i + 1) * Row.sz Vt = i * Row.sz Vt + Row.sz Vt := Nat.succ_mul _ _
      have hl3 : (xs.length + 1) * Row.sz Vt = (i + 1) * Row.sz Vt + (xs.length - i) * Row.sz Vt := by rw [← Nat.add_mul]; congr 1; omega
      have hD : (flat xs).drop (i * Row.sz Vt) = flat (xs.drop i) := (flat_drop _ _).symm
      have hin : i * Row.sz Vt + (Row.cells y).length ≤ cur2.length := by rw [hcl2, hyl]; omega
      have htk : (spliceL (spliceL cur2 (i * Row.sz Vt) (Row.cells y)) ((i + 1) * Row.sz Vt) ((flat xs).drop (i * Row.sz Vt))).take ((xs.length + 1) * Row.sz Vt) = flat (xs.take i ++ [y] ++ xs.drop i) := by
        rw [flat_app, flat_app, hfly, ← hD]
        exact ins_grow (by omega) hct2 (by rw [hyl, hl2]) (by rw [hl3, hD, hdl]) (by rw [hcl2]; exact hs2)
      have hlen : (spliceL (spliceL cur2 (i * Row.sz Vt) (Row.cells y)) ((i + 1) * Row.sz Vt) ((flat xs).drop (i * Row.sz Vt))).length = cap2 * Row.sz Vt := by
        rw [splice_len (by rw [splice_len hin, hD, hdl, hcl2, ← hl3]; exact hs2), splice_len hin, hcl2]
      have e : i + (xs.length + 1 - i) = xs.length + 1 := by omega
      rw [e]
      have hout := SH.ofB (cap := cap2) H (At.there (At.there At.here)) (xs.take i ++ [y] ++ xs.drop i) (xs.length + 1) (by simp; omega) (((hone.take i).app hyo).app (hone.drop i)) hlen (by omega) hcm2 htk
      exact ⟨_, _, rfl, SH.give (SH.sel hout [2] (by decide) rfl) (List.Sublist.refl _) ⟨trivial, trivial⟩⟩
    · try simp only [decide_eq_true_eq, decide_eq_false_iff_not, Bool.and_eq_true, Bool.or_eq_true, Bool.and_eq_false_iff, Bool.or_eq_false_iff, Bool.not_eq_true', Bool.not_eq_false', beq_iff_eq, bne_iff_ne, ne_eq, Decidable.not_not] at hc3
      refine CW.skip ?_
      refine thenE_norm (h10 _ _ ?_); clear h10; try clear K10
      refine CW.seq (fun K16 h16 => ?_)
      refine CW.region ?_
      refine r_move rfl ?_
      refine r_move rfl ?_
      refine r_move rfl ?_
      refine r_add rfl rfl rfl (wr_i64 (by omega) (by omega)) ?_
      refine r_sliceHc rfl Try.underlying58 Try.sizeOf61 rfl rfl (by omega) (by simp at *; omega) ?_
      refine r_assign rfl ?_
      refine LW.nil ?_
      refine thenE_norm (h16 _ _ ?_); clear h16; try clear K16
      refine CW.seq (fun K17 h17 => ?_)
      refine CW.seq (fun K18 h18 => ?_)
      refine CW.region ?_
      refine r_move rfl ?_
      refine r_move rfl ?_
      refine r_move rfl ?_
      refine r_move rfl ?_
      refine r_add rfl rfl rfl (wr_i64 (by omega) (by omega)) ?_
      refine r_sliceLp rfl Try.underlying58 Try.sizeOf61 rfl rfl (by simp; omega) (by simp; omega) (by simp at *; omega) ?_
      refine r_callX rfl rfl (run_overlapsB (tS := 58) (tR := 4) Try.func108 (by kernel_rfl) (by kernel_rfl) (by kernel_rfl) (by kernel_rfl) Try.underlying58 Try.sizeOf61 hneb (SH.propI H (i := 1) rfl) (H.blk At.here) (by rw [hcl]; have := Nat.mul_pos (show 0 < cap by omega) (Nat.le_of_ble_eq_true (Row.pos (α := Vt))); omega)) ?_
      refine r_not rfl rfl ?_
      refine LW.nil ?_
      refine thenE_norm ?_
      refine cut (K := K18) [0, 1, 2, 7, 8, 68] (fun σ => ?_)
      simp only [setL, keepE, upd_get, ev, Nat.reduceEqDiff, ↓reduceIte]
      refine h18 _ _ ?_; clear h18; try clear K18
      refine CW.condT rfl (by first | rfl | (simp only [decide_eq_true_eq, decide_eq_false_iff_not, Bool.and_eq_true, Bool.or_eq_true, Bool.and_eq_false_iff, Bool.or_eq_false_iff, Bool.not_eq_true', Bool.not_eq_false', beq_iff_eq, bne_iff_ne]; omega) | simp_all) ?_
      refine CW.seq (fun K19 h19 => ?_)
      refine CW.drawP [] [] H (by dsimp only [pickC, nthC] <;> rfl) (by repeat first | exact List.Sublist.refl _ | exact List.nil_sublist _ | apply List.Sublist.cons_cons | apply List.Sublist.cons) (by kernel_rfl) rfl ?_
      clear H
      intro w15d H
      refine DL.take (i := 0) [] rfl (by kernel_rfl) (by kernel_rfl) (by kernel_rfl) (by kernel_rfl) rfl rfl (fun u H => x_move ) (SH.sub H (by repeat first | exact List.Sublist.refl _ | exact List.nil_sublist _ | apply List.Sublist.cons_cons | apply List.Sublist.cons)) ?_
      refine DL.take (i := 1) [] rfl (by kernel_rfl) (by kernel_rfl) (by kernel_rfl) (by kernel_rfl) rfl rfl (fun u H => x_move ) (SH.sub H (by repeat first | exact List.Sublist.refl _ | exact List.nil_sublist _ | apply List.Sublist.cons_cons | apply List.Sublist.cons)) ?_
      refine DL.take (i := 2) [] rfl (by kernel_rfl) (by kernel_rfl) (by kernel_rfl) (by kernel_rfl) rfl rfl (fun u H => x_move ) (SH.sub H (by repeat first | exact List.Sublist.refl _ | exact List.nil_sublist _ | apply List.Sublist.cons_cons | apply List.Sublist.cons)) ?_
      refine DL.take (i := 3) [] rfl (by kernel_rfl) (by kernel_rfl) (by kernel_rfl) (by kernel_rfl) rfl rfl (fun u H => x_add rfl rfl (wr_i64 (by omega) (by omega))) (SH.sub H (by repeat first | exact List.Sublist.refl _ | exact List.nil_sublist _ | apply List.Sublist.cons_cons | apply List.Sublist.cons)) ?_
      refine DL.take (i := 4) [] rfl (by kernel_rfl) (by kernel_rfl) (by kernel_rfl) (by kernel_rfl) rfl rfl (fun u H => x_sliceLp Try.underlying58 Try.sizeOf61 rfl rfl (by simp; omega) (by simp; omega) (by simp at *; omega)) (SH.sub H (by repeat first | exact List.Sublist.refl _ | exact List.nil_sublist _ | apply List.Sublist.cons_cons | apply List.Sublist.cons)) ?_
      refine DL.take (i := 5) [] rfl (by kernel_rfl) (by kernel_rfl) (by kernel_rfl) (by kernel_rfl) rfl rfl (fun u H => x_move ) (SH.sub H (by repeat first | exact List.Sublist.refl _ | exact List.nil_sublist _ | apply List.Sublist.cons_cons | apply List.Sublist.cons)) ?_
      refine DL.take (i := 6) [] rfl (by kernel_rfl) (by kernel_rfl) (by kernel_rfl) (by kernel_rfl) rfl rfl (fun u H => x_move ) (SH.sub H (by repeat first | exact List.Sublist.refl _ | exact List.nil_sublist _ | apply List.Sublist.cons_cons | apply List.Sublist.cons)) ?_
      refine DL.take (i := 7) [] rfl (by kernel_rfl) (by kernel_rfl) (by kernel_rfl) (by kernel_rfl) rfl rfl (fun u H => x_sliceLp Try.underlying58 Try.sizeOf61 rfl rfl (by omega) (by simp; omega) (by simp at *; omega)) (SH.sub H (by repeat first | exact List.Sublist.refl _ | exact List.nil_sublist _ | apply List.Sublist.cons_cons | apply List.Sublist.cons)) ?_
      refine DL.one (i := 8) (by kernel_rfl) rfl rfl ?_
      have hpt := Cells.part (o := i * Row.sz Vt) (SH.cells H At.here) ((xs.length - i) * Row.sz Vt)
      rw [show (cur.drop (i * Row.sz Vt)).take ((xs.length - i) * Row.sz Vt) = flat (xs.drop i) from by rw [flat_drop, ← hct, List.drop_take]; congr 1; omega] at hpt
      refine s_copyB (m := xs.length - i) (q := ((xs.length : Int) + ([y].length : Nat)).toNat - (i : Int).toNat) (news := flat (xs.drop i)) H rfl Try.underlying58 Try.type61 (by rfl) rfl rfl At.here (by first | (simp [Builtin.lenOf]; done) | (simp [Builtin.lenOf]; omega) | rfl) (by simp; omega) (run_firstCells_some (P := Try.prog) _ (Row.sz Vt) (xs.length - i) ⟨b, i * Row.sz Vt, none⟩ _ _ (flat (xs.drop i)) hdl (fun j u hj => by rw [addr_add]; exact hpt.get j u hj)) hdo hdl (by rw [hcl]; show (i + 1) * Row.sz Vt + _ ≤ _; rw [← Nat.add_mul]; exact Nat.mul_le_mul_right _ (by simp at *; omega)) ?_
      clear H
      intro w15 H
      try dsimp only [replC, List.append_nil, List.cons_append, List.nil_append] at H
      refine LW.nil (thenE_norm ⟨fun _ => (SH.sub H (by repeat first | exact List.Sublist.refl _ | exact List.nil_sublist _ | apply List.Sublist.cons_cons | apply List.Sublist.cons)), ?_⟩)
      refine DL.done (by kernel_rfl) ?_
      refine thenE_norm ?_
      refine cut (K := K19) [0, 1, 2] (fun σ => ?_)
      simp only [setL, keepE, upd_get, ev, Nat.reduceEqDiff, ↓reduceIte]
      refine h19 _ _ ?_; clear h19; try clear K19
      refine CW.seq (fun K20 h20 => ?_)
      refine CW.region ?_
      refine r_move rfl ?_
      refine r_move rfl ?_
      refine r_sliceLp rfl Try.underlying58 Try.sizeOf61 rfl rfl (by omega) (by simp; omega) (by simp at *; omega) ?_
      refine r_move rfl ?_
      refine s_copyB (m := 1) (q := 1) H rfl Try.underlying58 Try.type61 (by rfl) rfl rfl At.here (hsrcY _ (SH.propI H (i := 1) rfl)).2.2.1 (by simp; omega) (hsrcY _ (SH.propI H (i := 1) rfl)).2.2.2.1 (hsrcY _ (SH.propI H (i := 1) rfl)).2.1 (hsrcY _ (SH.propI H (i := 1) rfl)).1 (by erw [splice_len (by rw [hcl, hdl]; show (i + 1) * Row.sz Vt + _ ≤ _; rw [← Nat.add_mul]; exact Nat.mul_le_mul_right _ (by simp at *; omega)), hcl]; show i * Row.sz Vt + 1 * Row.sz Vt ≤ _; rw [← Nat.add_mul]; exact Nat.mul_le_mul_right _ (by omega)) ?_
      clear H
      intro w16 H
      try dsimp only [replC, List.append_nil, List.cons_append, List.nil_append] at H
      refine LW.nil ?_
      refine thenE_norm (h20 _ _ ?_); clear h20; try clear K20
      refine CW.seq (fun K21 h21 => ?_)
      refine CW.region ?_
      refine r_move rfl ?_
      refine r_assign rfl ?_
      refine LW.nil ?_
      refine thenE_norm (h21 _ _ ?_); clear h21; try clear K21
      refine CW.ret (thenE_ret (ret1 Try.results76 (by simp only [upd_get, ev, Nat.reduceEqDiff, ↓reduceIte]; rfl) ?_))
      have hcap1 : xs.length + 1 ≤ cap := by simp at *; omega
      have hs2 : (xs.length + 1) * Row.sz Vt ≤ cap * Row.sz Vt := Nat.mul_le_mul_right _ hcap1
      have hl2 : (i + 1) * Row.sz Vt = i * Row.sz Vt + Row.sz Vt := Nat.succ_mul _ _
      have hl3 : (xs.length + 1) * Row.sz Vt = (i + 1) * Row.sz Vt + (xs.length - i) * Row.sz Vt := by rw [← Nat.add_mul]; congr 1; omega
      have hin : (i + 1) * Row.sz Vt + (flat (xs.drop i)).length ≤ cur.length := by rw [hcl, hdl, ← hl3]; exact hs2
      have htk : (spliceL (spliceL cur ((i + 1) * Row.sz Vt) (flat (xs.drop i))) (i * Row.sz Vt) (Row.cells y)).take ((xs.length + 1) * Row.sz Vt) = flat (xs.take i ++ [y] ++ xs.drop i) := by
        rw [flat_app, flat_app, hfly]
        exact ins_room (by omega) hcti (by rw [hyl, hl2]) (by rw [hl3, hdl]) (by rw [hcl]; exact hs2)
      have hlen : (spliceL (spliceL cur ((i + 1) * Row.sz Vt) (flat (xs.drop i))) (i * Row.sz Vt) (Row.cells y)).length = cap * Row.sz Vt := by
        rw [splice_len (by rw [splice_len hin, hyl]; omega), splice_len hin, hcl]
      have hout := SH.ofB (cap := cap) H At.here (xs.take i ++ [y] ++ xs.drop i) (xs.length + 1) (by simp; omega) (((hone.take i).app hyo).app (hone.drop i)) hlen hcap1 hcm htk
      exact ⟨_, _, rfl, SH.give (SH.sel hout [0] (by decide) rfl) (List.Sublist.refl _) ⟨trivial, trivial⟩⟩
set_option maxRecDepth 20000 in
theorem CloneV_c {F : Nat → Prop} {v : Value} {xs : List Vt} (w : World) (hv : Rs F w v xs) (hn : xs.length ≤ 1000000) :
    Calls Try.prog 77 #[v] w fun e w' => ∃ v' g, e = .returned v' ∧ SH Non Non w w' [.O 61 v' xs g] := by
  have H := (SH.start w).arg hv
  refine calls_of_CW Try.func77 rfl Try.ntmps77 (Nat.le_of_ble_eq_true rfl) ?_
  simp only [argE, argFrom, Nat.reduceAdd]
  refine CW.seq (fun K1 h1 => ?_)
  refine CW.region ?_
  refine r_assign rfl ?_
  refine LW.nil ?_
  refine thenE_norm (h1 _ _ ?_); clear h1; try clear K1
  refine CW.seq (fun K2 h2 => ?_)
  refine CW.seq (fun K3 h3 => ?_)
  refine CW.region ?_
  refine r_move rfl ?_
  refine r_eqlV rfl Try.underlying58 (by simp only [upd_get, ev, Nat.reduceEqDiff, ↓reduceIte] <;> rfl) rfl (by first | assumption | exact SH.rsR H (by (repeat first | exact At.here | apply At.there); done) | exact SH.rsO H (by (repeat first | exact At.here | apply At.there); done) | exact (Rs.nil : Rs Non _ _ _)) ?_
  intro c1_1 hn1_1
  refine LW.nil ?_
  refine thenE_norm (h3 _ _ ?_); clear h3; try clear K3
  refine CW.cond rfl (fun hc1 => ?_) (fun hc1 => ?_)
  · try simp only [decide_eq_true_eq, decide_eq_false_iff_not, Bool.and_eq_true, Bool.or_eq_true, Bool.and_eq_false_iff, Bool.or_eq_false_iff, Bool.not_eq_true', Bool.not_eq_false', beq_iff_eq, bne_iff_ne, ne_eq, Decidable.not_not] at hc1
    refine CW.seq (fun K4 h4 => ?_)
    refine CW.region ?_
    refine r_assign rfl ?_
    refine LW.nil ?_
    refine thenE_norm (h4 _ _ ?_); clear h4; try clear K4
    refine CW.ret (thenE_ret (ret1 Try.results77 (by simp only [upd_get, ev, Nat.reduceEqDiff, ↓reduceIte]; rfl) ?_))
    obtain rfl := hn1_1 hc1
    exact ⟨_, _, rfl, SH.give (H.addO (α := Vt) 61) (by repeat first | exact List.Sublist.refl _ | exact List.nil_sublist _ | apply List.Sublist.cons_cons | apply List.Sublist.cons) ⟨trivial, trivial⟩⟩
  · try simp only [decide_eq_true_eq, decide_eq_false_iff_not, Bool.and_eq_true, Bool.or_eq_true, Bool.and_eq_false_iff, Bool.or_eq_false_iff, Bool.not_eq_true', Bool.not_eq_false', beq_iff_eq, bne_iff_ne, ne_eq, Decidable.not_not] at hc1
    refine CW.skip ?_
    refine thenE_norm (h2 _ _ ?_); clear h2; try clear K2
    refine CW.seq (fun K5 h5 => ?_)
    refine CW.region ?_
    refine r_buildSlice0 rfl Try.underlying58 Try.sizeOf61 rfl ?_
    intro b3_0 w3_0 hb3_0 hs3_0 hE3_0 hB3_0
    replace H := SH.call H (SH.fromB hE3_0 hb3_0 hs3_0 hB3_0)
    clear hb3_0 hs3_0 hE3_0 hB3_0
    try dsimp only [replC, List.cons_append, List.nil_append, List.append_nil, agg, cellsL, Value.cells, List.toList_toArray, List.set_cons_zero, List.set_cons_succ, spliceL, List.take_succ_cons, List.take_zero, List.drop_succ_cons, List.drop_zero, List.length_cons, List.length_nil, Nat.reduceAdd, Row.cells, Cm.L, Rq.L, Tp.L, Bat.L, Vt.L] at H
    replace H := SH.row (b := b3_0) (xs := ([] : List Vt)) (n := 0) (cap := 0) H (by (repeat first | exact At.here | apply At.there); done) (by simp only [flat, List.flatMap_cons, List.flatMap_nil, cellsL, agg, List.append_nil, List.cons_append, List.nil_append, List.toList_toArray, Row.cells, Cm.L, Rq.L, Tp.L, Bat.L, Vt.L] <;> rfl) (by intro x hx; first | rfl | (simp at hx; done) | (simp only [List.mem_cons, List.not_mem_nil, or_false] at hx; rcases hx with rfl <;> first | rfl | exact (by first | rfl | assumption | exact Rs.oneC (by first | assumption | exact SH.rsR H (by (repeat first | exact At.here | apply At.there); done) | exact SH.rsO H (by (repeat first | exact At.here | apply At.there); done) | exact (Rs.nil : Rs Non _ _ _)) | (simp only [List.all_cons, List.all_nil, Bool.and_true, Bool.and_eq_true, Row.cells, Cm.L, Rq.L, Tp.L, Bat.L, Vt.L]; (repeat' constructor) <;> first | rfl | assumption | exact Rs.oneC (by first | assumption | exact SH.rsR H (by (repeat first | exact At.here | apply At.there); done) | exact SH.rsO H (by (repeat first | exact At.here | apply At.there); done) | exact (Rs.nil : Rs Non _ _ _)))))) (by rfl) rfl (by decide)
    try dsimp only [replC, List.cons_append, List.nil_append, List.append_nil, agg, cellsL, Value.cells, List.toList_toArray, List.set_cons_zero, List.set_cons_succ, spliceL, List.take_succ_cons, List.take_zero, List.drop_succ_cons, List.drop_zero, List.length_cons, List.length_nil, Nat.reduceAdd, Row.cells, Cm.L, Rq.L, Tp.L, Bat.L, Vt.L] at H
    refine r_move rfl ?_
    first
      | refine s_append H rfl Try.underlying58 Try.underlying58 Try.type61 rfl (by simp only [upd_get, ev, Nat.reduceEqDiff, ↓reduceIte] <;> rfl) (by simp only [upd_get, ev, Nat.reduceEqDiff, ↓reduceIte] <;> rfl) (by (repeat first | exact At.here | apply At.there); done) (by first | assumption | exact SH.rsR H (by (repeat first | exact At.here | apply At.there); done) | exact SH.rsO H (by (repeat first | exact At.here | apply At.there); done) | exact (Rs.nil : Rs Non _ _ _)) (by rfl) (by rfl) (by first | omega | (simp only [Try.t61, List.length_append, List.length_cons, List.length_nil, List.length_map, maxLen]; omega) | (simp [Try.t61, maxLen]; omega)) (by first | omega | (simp only [Try.t61, List.length_append, List.length_cons, List.length_nil, List.length_map, maxLen]; omega) | (simp [Try.t61, maxLen]; omega)) ?_
      | refine s_appendNil H rfl Try.underlying58 Try.underlying58 Try.type61 rfl rfl (by simp only [upd_get, ev, Nat.reduceEqDiff, ↓reduceIte] <;> rfl) (by first | assumption | exact SH.rsR H (by (repeat first | exact At.here | apply At.there); done) | exact SH.rsO H (by (repeat first | exact At.here | apply At.there); done) | exact (Rs.nil : Rs Non _ _ _)) (by rfl) (by rfl) (by first | omega | (simp only [Try.t61, List.length_append, List.length_cons, List.length_nil, List.length_map, maxLen]; omega) | (simp [Try.t61, maxLen]; omega)) ?_
    clear H
    intro v3_2 w3_2 g3_2 H hN3_2
    try dsimp only [replC, List.cons_append, List.nil_append, List.append_nil] at H
    refine r_assign rfl ?_
    refine LW.nil ?_
    refine thenE_norm (h5 _ _ ?_); clear h5; try clear K5
    refine CW.ret (ret1 Try.results77 (by simp only [upd_get, ev, Nat.reduceEqDiff, ↓reduceIte]; rfl) ?_)
    exact ⟨_, _, rfl, (SH.give H (by repeat first | exact List.Sublist.refl _ | exact List.nil_sublist _ | apply List.Sublist.cons_cons | apply List.Sublist.cons) (by repeat first | exact trivial | refine ⟨trivial, ?_⟩))⟩
set_option maxRecDepth 20000 in
theorem CloneQ_c {F : Nat → Prop} {v : Value} {xs : List Rq} (w : World) (hv : Rs F w v xs) (hn : xs.length ≤ 1000000) :
    Calls Try.prog 66 #[v] w fun e w' => ∃ v' g, e = .returned v' ∧ SH Non Non w w' [.O 32 v' xs g] := by
  have H := (SH.start w).arg hv
  refine calls_of_CW Try.func66 rfl Try.ntmps66 (Nat.le_of_ble_eq_true rfl) ?_
  simp only [argE, argFrom, Nat.reduceAdd]
  refine CW.seq (fun K1 h1 => ?_)
  refine CW.region ?_
  refine r_assign rfl ?_
  refine LW.nil ?_
  refine thenE_norm (h1 _ _ ?_); clear h1; try clear K1
  refine CW.seq (fun K2 h2 => ?_)
  refine CW.seq (fun K3 h3 => ?_)
  refine CW.region ?_
  refine r_move rfl ?_
  refine r_eqlV rfl Try.underlying25 (by simp only [upd_get, ev, Nat.reduceEqDiff, ↓reduceIte] <;> rfl) rfl (by first | assumption | exact SH.rsR H (by (repeat first | exact At.here | apply At.there); done) | exact SH.rsO H (by (repeat first | exact At.here | apply At.there); done) | exact (Rs.nil : Rs Non _ _ _)) ?_
  intro c1_1 hn1_1
  refine LW.nil ?_
  refine thenE_norm (h3 _ _ ?_); clear h3; try clear K3
  refine CW.cond rfl (fun hc1 => ?_) (fun hc1 => ?_)
  · try simp only [decide_eq_true_eq, decide_eq_false_iff_not, Bool.and_eq_true, Bool.or_eq_true, Bool.and_eq_false_iff, Bool.or_eq_false_iff, Bool.not_eq_true', Bool.not_eq_false', beq_iff_eq, bne_iff_ne, ne_eq, Decidable.not_not] at hc1
    refine CW.seq (fun K4 h4 => ?_)
    refine CW.region ?_
    refine r_assign rfl ?_
    refine LW.nil ?_
    refine thenE_norm (h4 _ _ ?_); clear h4; try clear K4
    refine CW.ret (thenE_ret (ret1 Try.results66 (by simp only [upd_get, ev, Nat.reduceEqDiff, ↓reduceIte]; rfl) ?_))
    obtain rfl := hn1_1 hc1
    exact ⟨_, _, rfl, SH.give (H.addO (α := Rq) 32) (by repeat first | exact List.Sublist.refl _ | exact List.nil_sublist _ | apply List.Sublist.cons_cons | apply List.Sublist.cons) ⟨trivial, trivial⟩⟩
  · try simp only [decide_eq_true_eq, decide_eq_false_iff_not, Bool.and_eq_true, Bool.or_eq_true, Bool.and_eq_false_iff, Bool.or_eq_false_iff, Bool.not_eq_true', Bool.not_eq_false', beq_iff_eq, bne_iff_ne, ne_eq, Decidable.not_not] at hc1
    refine CW.skip ?_
    refine thenE_norm (h2 _ _ ?_); clear h2; try clear K2
    refine CW.seq (fun K5 h5 => ?_)
    refine CW.region ?_
    refine r_buildSlice0 rfl Try.underlying25 Try.sizeOf32 rfl ?_
    intro b3_0 w3_0 hb3_0 hs3_0 hE3_0 hB3_0
    replace H := SH.call H (SH.fromB hE3_0 hb3_0 hs3_0 hB3_0)
    clear hb3_0 hs3_0 hE3_0 hB3_0
    try dsimp only [replC, List.cons_append, List.nil_append, List.append_nil, agg, cellsL, Value.cells, List.toList_toArray, List.set_cons_zero, List.set_cons_succ, spliceL, List.take_succ_cons, List.take_zero, List.drop_succ_cons, List.drop_zero, List.length_cons, List.length_nil, Nat.reduceAdd, Row.cells, Cm.L, Rq.L, Tp.L, Bat.L, Vt.L] at H
    replace H := SH.row (b := b3_0) (xs := ([] : List Rq)) (n := 0) (cap := 0) H (by (repeat first | exact At.here | apply At.there); done) (by simp only [flat, List.flatMap_cons, List.flatMap_nil, cellsL, agg, List.append_nil, List.cons_append, List.nil_append, List.toList_toArray, Row.cells, Cm.L, Rq.L, Tp.L, Bat.L, Vt.L] <;> rfl) (by intro x hx; first | rfl | (simp at hx; done) | (simp only [List.mem_cons, List.not_mem_nil, or_false] at hx; rcases hx with rfl <;> first | rfl | exact (by first | rfl | assumption | exact Rs.oneC (by first | assumption | exact SH.rsR H (by (repeat first | exact At.here | apply At.there); done) | exact SH.rsO H (by (repeat first | exact At.here | apply At.there); done) | exact (Rs.nil : Rs Non _ _ _)) | (simp only [List.all_cons, List.all_nil, Bool.and_true, Bool.and_eq_true, Row.cells, Cm.L, Rq.L, Tp.L, Bat.L, Vt.L]; (repeat' constructor) <;> first | rfl | assumption | exact Rs.oneC (by first | assumption | exact SH.rsR H (by (repeat first | exact At.here | apply At.there); done) | exact SH.rsO H (by (repeat first | exact At.here | apply At.there); done) | exact (Rs.nil : Rs Non _ _ _)))))) (by rfl) rfl (by decide)
    try dsimp only [replC, List.cons_append, List.nil_append, List.append_nil, agg, cellsL, Value.cells, List.toList_toArray, List.set_cons_zero, List.set_cons_succ, spliceL, List.take_succ_cons, List.take_zero, List.drop_succ_cons, List.drop_zero, List.length_cons, List.length_nil, Nat.reduceAdd, Row.cells, Cm.L, Rq.L, Tp.L, Bat.L, Vt.L] at H
    refine r_move rfl ?_
    first
      | refine s_append H rfl Try.underlying25 Try.underlying25 Try.type32 rfl (by simp only [upd_get, ev, Nat.reduceEqDiff, ↓reduceIte] <;> rfl) (by simp only [upd_get, ev, Nat.reduceEqDiff, ↓reduceIte] <;> rfl) (by (repeat first | exact At.here | apply At.there); done) (by first | assumption | exact SH.rsR H (by (repeat first | exact At.here | apply At.there); done) | exact SH.rsO H (by (repeat first | exact At.here | apply At.there); done) | exact (Rs.nil : Rs Non _ _ _)) (by rfl) (by rfl) (by first | omega | (simp only [Try.t32, List.length_append, List.length_cons, List.length_nil, List.length_map, maxLen]; omega) | (simp [Try.t32, maxLen]; omega)) (by first | omega | (simp only [Try.t32, List.length_append, List.length_cons, List.length_nil, List.length_map, maxLen]; omega) | (simp [Try.t32, maxLen]; omega)) ?_
      | refine s_appendNil H rfl Try.underlying25 Try.underlying25 Try.type32 rfl rfl (by simp only [upd_get, ev, Nat.reduceEqDiff, ↓reduceIte] <;> rfl) (by first | assumption | exact SH.rsR H (by (repeat first | exact At.here | apply At.there); done) | exact SH.rsO H (by (repeat first | exact At.here | apply At.there); done) | exact (Rs.nil : Rs Non _ _ _)) (by rfl) (by rfl) (by first | omega | (simp only [Try.t32, List.length_append, List.length_cons, List.length_nil, List.length_map, maxLen]; omega) | (simp [Try.t32, maxLen]; omega)) ?_
    clear H
    intro v3_2 w3_2 g3_2 H hN3_2
    try dsimp only [replC, List.cons_append, List.nil_append, List.append_nil] at H
    refine r_assign rfl ?_
    refine LW.nil ?_
    refine thenE_norm (h5 _ _ ?_); clear h5; try clear K5
    refine CW.ret (ret1 Try.results66 (by simp only [upd_get, ev, Nat.reduceEqDiff, ↓reduceIte]; rfl) ?_)
    exact ⟨_, _, rfl, (SH.give H (by repeat first | exact List.Sublist.refl _ | exact List.nil_sublist _ | apply List.Sublist.cons_cons | apply List.Sublist.cons) (by repeat first | exact trivial | refine ⟨trivial, ?_⟩))⟩
theorem isNaN_c (n : Int) (w : World) : Calls Try.prog 107 #[.int .i64 n] w fun e w' => e = .returned (.bool false) ∧ w = w' := by
  refine calls_of_CW Try.func107 rfl Try.ntmps107 (Nat.le_of_ble_eq_true rfl) ?_
  simp only [argE, argFrom, Nat.reduceAdd]
  refine CW.seq (fun K1 h1 => ?_)
  refine CW.region ?_
  refine r_assign rfl ?_
  refine LW.nil ?_
  refine thenE_norm (h1 _ _ ?_); clear h1; try clear K1
  refine CW.seq (fun K2 h2 => ?_)
  refine CW.region ?_
  refine r_move rfl ?_
  refine r_move rfl ?_
  refine r_neq rfl rfl rfl ?_
  refine r_assign rfl ?_
  refine LW.nil ?_
  refine thenE_norm (h2 _ _ ?_); clear h2; try clear K2
  refine CW.ret (ret1 Try.results107 (by simp only [upd_get, ev, Nat.reduceEqDiff, ↓reduceIte]; rfl) ?_)
  exact ⟨by simp, rfl⟩
theorem Compare_c (a b : Int) (w : World) : Calls Try.prog 75 #[.int .i64 a, .int .i64 b] w fun e w' => e = .returned (.int .i64 (cmpK a b)) ∧ w = w' := by
  refine calls_of_CW Try.func75 rfl Try.ntmps75 (Nat.le_of_ble_eq_true rfl) ?_
  simp only [argE, argFrom, Nat.reduceAdd]
  refine CW.seq (fun K1 h1 => ?_)
  refine CW.region ?_
  refine r_assign rfl ?_
  refine LW.nil ?_
  refine thenE_norm (h1 _ _ ?_); clear h1; try clear K1
  refine CW.seq (fun K2 h2 => ?_)
  refine CW.region ?_
  refine r_move rfl ?_
  refine r_call rfl Try.call107 (by simp only [List.map_cons, List.map_nil, List.map_toArray, List.toList_toArray, upd_get, ev, Nat.reduceEqDiff, ↓reduceIte] <;> rfl) (isNaN_c _ _) ?_
  rintro _ _ ⟨rfl, rfl⟩
  refine ⟨_, rfl, ?_⟩
  refine r_assign rfl ?_
  refine LW.nil ?_
  refine thenE_norm (h2 _ _ ?_); clear h2; try clear K2
  refine CW.seq (fun K3 h3 => ?_)
  refine CW.region ?_
  refine r_move rfl ?_
  refine r_call rfl Try.call107 (by simp only [List.map_cons, List.map_nil, List.map_toArray, List.toList_toArray, upd_get, ev, Nat.reduceEqDiff, ↓reduceIte] <;> rfl) (isNaN_c _ _) ?_
  rintro _ _ ⟨rfl, rfl⟩
  refine ⟨_, rfl, ?_⟩
  refine r_assign rfl ?_
  refine LW.nil ?_
  refine thenE_norm (h3 _ _ ?_); clear h3; try clear K3
  refine CW.seq (fun K4 h4 => ?_)
  refine CW.seq (fun K5 h5 => ?_)
  refine CW.region ?_
  refine r_move rfl ?_
  refine LW.nil ?_
  refine thenE_norm ?_
  refine cut (K := K5) [0, 1, 6, 11] (fun σ => ?_)
  simp only [setL, keepE, upd_get, ev, Nat.reduceEqDiff, ↓reduceIte]
  refine h5 _ _ ?_; clear h5; try clear K5
  refine CW.condF rfl (by first | rfl | (simp only [decide_eq_true_eq, decide_eq_false_iff_not, Bool.and_eq_true, Bool.or_eq_true, Bool.and_eq_false_iff, Bool.or_eq_false_iff, Bool.not_eq_true', Bool.not_eq_false', beq_iff_eq, bne_iff_ne]; omega) | simp_all) ?_
  refine CW.skip ?_
  refine thenE_norm (h4 _ _ ?_); clear h4; try clear K4
  refine CW.seq (fun K6 h6 => ?_)
  refine CW.seq (fun K7 h7 => ?_)
  refine CW.region ?_
  refine r_move rfl ?_
  refine LW.nil ?_
  refine thenE_norm (h7 _ _ ?_); clear h7; try clear K7
  refine CW.condF rfl (by first | rfl | (simp only [decide_eq_true_eq, decide_eq_false_iff_not, Bool.and_eq_true, Bool.or_eq_true, Bool.and_eq_false_iff, Bool.or_eq_false_iff, Bool.not_eq_true', Bool.not_eq_false', beq_iff_eq, bne_iff_ne]; omega) | simp_all) ?_
  refine CW.skip ?_
  refine thenE_norm (h6 _ _ ?_); clear h6; try clear K6
  refine CW.seq (fun K8 h8 => ?_)
  refine CW.seq (fun K9 h9 => ?_)
  refine CW.region ?_
  refine r_move rfl ?_
  refine r_move rfl ?_
  refine r_lss rfl rfl rfl ?_
  refine LW.nil ?_
  refine thenE_norm (h9 _ _ ?_); clear h9; try clear K9
  refine CW.cond rfl (fun hc4 => ?_) (fun hc4 => ?_)
  · try simp only [decide_eq_true_eq, decide_eq_false_iff_not, Bool.and_eq_true, Bool.or_eq_true, Bool.and_eq_false_iff, Bool.or_eq_false_iff, Bool.not_eq_true', Bool.not_eq_false', beq_iff_eq, bne_iff_ne, ne_eq, Decidable.not_not] at hc4
    refine CW.seq (fun K10 h10 => ?_)
    refine CW.region ?_
    refine r_assign rfl ?_
    refine LW.nil ?_
    refine thenE_norm (h10 _ _ ?_); clear h10; try clear K10
    refine CW.ret (thenE_ret (ret1 Try.results75 (by simp only [upd_get, ev, Nat.reduceEqDiff, ↓reduceIte]; rfl) ?_))
    rw [cmpK, if_pos (by omega)]
    exact ⟨rfl, rfl⟩
  · try simp only [decide_eq_true_eq, decide_eq_false_iff_not, Bool.and_eq_true, Bool.or_eq_true, Bool.and_eq_false_iff, Bool.or_eq_false_iff, Bool.not_eq_true', Bool.not_eq_false', beq_iff_eq, bne_iff_ne, ne_eq, Decidable.not_not] at hc4
    refine CW.skip ?_
    refine thenE_norm (h8 _ _ ?_); clear h8; try clear K8
    refine CW.seq (fun K11 h11 => ?_)
    refine CW.seq (fun K12 h12 => ?_)
    refine CW.region ?_
    refine r_move rfl ?_
    refine r_move rfl ?_
    refine r_gtr rfl rfl rfl ?_
    refine LW.nil ?_
    refine thenE_norm (h12 _ _ ?_); clear h12; try clear K12
    refine CW.cond rfl (fun hc5 => ?_) (fun hc5 => ?_)
    · try simp only [decide_eq_true_eq, decide_eq_false_iff_not, Bool.and_eq_true, Bool.or_eq_true, Bool.and_eq_false_iff, Bool.or_eq_false_iff, Bool.not_eq_true', Bool.not_eq_false', beq_iff_eq, bne_iff_ne, ne_eq, Decidable.not_not] at hc5
      refine CW.seq (fun K13 h13 => ?_)
      refine CW.region ?_
      refine r_assign rfl ?_
      refine LW.nil ?_
      refine thenE_norm ?_
      refine cut (K := K13) [4] (fun σ => ?_)
      simp only [setL, keepE, upd_get, ev, Nat.reduceEqDiff, ↓reduceIte]
      refine h13 _ _ ?_; clear h13; try clear K13
      refine CW.ret (thenE_ret (ret1 Try.results75 (by simp only [upd_get, ev, Nat.reduceEqDiff, ↓reduceIte]; rfl) ?_))
      rw [cmpK, if_neg (by omega), if_pos (by omega)]
      exact ⟨rfl, rfl⟩
    · try simp only [decide_eq_true_eq, decide_eq_false_iff_not, Bool.and_eq_true, Bool.or_eq_true, Bool.and_eq_false_iff, Bool.or_eq_false_iff, Bool.not_eq_true', Bool.not_eq_false', beq_iff_eq, bne_iff_ne, ne_eq, Decidable.not_not] at hc5
      refine CW.skip ?_
      refine thenE_norm (h11 _ _ ?_); clear h11; try clear K11
      refine CW.seq (fun K14 h14 => ?_)
      refine CW.region ?_
      refine r_assign rfl ?_
      refine LW.nil ?_
      refine thenE_norm ?_
      refine cut (K := K14) [4] (fun σ => ?_)
      simp only [setL, keepE, upd_get, ev, Nat.reduceEqDiff, ↓reduceIte]
      refine h14 _ _ ?_; clear h14; try clear K14
      refine CW.ret (ret1 Try.results75 (by simp only [upd_get, ev, Nat.reduceEqDiff, ↓reduceIte]; rfl) ?_)
      rw [cmpK, if_neg (by omega), if_neg (by omega)]
      exact ⟨rfl, rfl⟩
theorem accept1_c (s : Vt) (n : Int) (w : World) : Calls Try.prog 74 #[agg s, .int .i64 n] w fun e w' => e = .returned (.int .i64 (cmpK s.slot n)) ∧ Ext0 w w' := by
  have H := SH.start (U := Non) (G := Any) w
  refine calls_of_CW Try.func74 rfl Try.ntmps74 (Nat.le_of_ble_eq_true rfl) ?_
  simp only [argE, argFrom, Nat.reduceAdd]
  refine CW.seq (fun K1 h1 => ?_)
  refine CW.region ?_
  refine s_box H rfl (by simp only [upd_get, ev, Nat.reduceEqDiff, ↓reduceIte] <;> rfl) rfl ?_
  clear H
  intro b0_0 w0_0 H
  try dsimp only [replC, List.cons_append, List.nil_append, List.append_nil, agg, cellsL, Value.cells, List.toList_toArray, List.set_cons_zero, List.set_cons_succ, spliceL, List.take_succ_cons, List.take_zero, List.drop_succ_cons, List.drop_zero, List.length_cons, List.length_nil, Nat.reduceAdd, Row.cells, Cm.L, Rq.L, Tp.L, Bat.L, Vt.L] at H
  refine r_assign rfl ?_
  refine LW.nil ?_
  refine thenE_norm (h1 _ _ ?_); clear h1; try clear K1
  refine CW.seq (fun K2 h2 => ?_)
  refine CW.region ?_
  refine r_fieldAddrO rfl Try.underlying61 rfl Try.sizeOf3 (by decide) (show _ = 0 from rfl) rfl ?_
  refine r_load rfl Try.isAgg3 rfl (by first | exact SH.cellB H (by (repeat first | exact At.here | apply At.there); done) (by rfl) | assumption) ?_
  refine r_move rfl ?_
  refine r_call rfl Try.call75 (by simp only [List.map_cons, List.map_nil, List.map_toArray, List.toList_toArray, upd_get, ev, Nat.reduceEqDiff, ↓reduceIte] <;> rfl) (Compare_c _ _ _) ?_
  rintro _ _ ⟨rfl, rfl⟩
  refine ⟨_, rfl, ?_⟩
  refine r_assign rfl ?_
  refine LW.nil ?_
  refine thenE_norm (h2 _ _ ?_); clear h2; try clear K2
  refine CW.ret (ret1 Try.results74 (by simp only [upd_get, ev, Nat.reduceEqDiff, ↓reduceIte]; rfl) ?_)
  exact ⟨rfl, H.ext⟩
theorem placeV_c {F : Nat → Prop} {v : Value} {raws : List Vt} (n : Int) (w : World) (hv : Rs F w v raws) (hn : raws.length ≤ 1000000) (hup : UpK Vt.slot raws) :
    Calls Try.prog 73 #[v, .int .i64 n, .func (.func 74) #[] #[]] w fun e w' => e = .returned (.tuple #[.int .i64 (atK Vt.slot raws n), .bool (inK Vt.slot raws n)]) ∧ Ext0 w w' :=
  BsV_c (c := fun s : Vt => cmpK s.slot n) w hv ⟨_, [], [], rfl, Try.call74, fun x w => accept1_c x n w⟩ hn (hup.rising n)
theorem isNumA_c (n : Int) (w : World) : Calls Try.prog 71 #[.int .i64 n] w fun e w' => e = .returned (.bool (highM n 0)) ∧ w = w' := by
  refine calls_of_CW Try.func71 rfl Try.ntmps71 (Nat.le_of_ble_eq_true rfl) ?_
  simp only [argE, argFrom, Nat.reduceAdd]
  refine CW.seq (fun K1 h1 => ?_)
  refine CW.region ?_
  refine r_assign rfl ?_
  refine LW.nil ?_
  refine thenE_norm (h1 _ _ ?_); clear h1; try clear K1
  refine CW.seq (fun K2 h2 => ?_)
  refine CW.region ?_
  refine r_move rfl ?_
  refine r_geq rfl rfl rfl ?_
  refine r_move rfl ?_
  refine' LW.grpAnd (n := 3) (ts := []) (d := 8) (tj := 5) rfl (fun hg1_3 => ?_) (fun hg1_3 => ?_) (fun σ => ?_)
  rotate_left
  · simp only [List.take_succ_cons, List.take_zero]
    have hg1_3P := hg1_3
    try simp only [decide_eq_true_eq, decide_eq_false_iff_not, Bool.and_eq_true, Bool.or_eq_true, Bool.and_eq_false_iff, Bool.or_eq_false_iff, Bool.not_eq_true', Bool.not_eq_false', beq_iff_eq, bne_iff_ne] at hg1_3P
    refine LW.want rfl rfl hg1_3 ?_
    refine r_move rfl ?_
    refine LW.want rfl rfl hg1_3 ?_
    refine r_leq rfl rfl rfl ?_
    refine r_pickT rfl rfl hg1_3 ?_
    refine LW.nil (thenE_norm ⟨rfl, rfl, rfl⟩)
  · simp only [List.take_succ_cons, List.take_zero]
    refine LW.skip rfl (fun _ e => by cases e; decide) rfl hg1_3 ?_
    refine LW.skip rfl (fun _ e => by cases e; decide) rfl hg1_3 ?_
    refine r_pickF rfl rfl hg1_3 ?_
    refine LW.nil (thenE_norm ⟨rfl, rfl, rfl⟩)
  simp only [setL, keepE, upd_get, ev, Nat.reduceEqDiff, ↓reduceIte]; simp only [List.drop_succ_cons, List.drop_zero]
  refine r_assign rfl ?_
  refine LW.nil ?_
  refine thenE_norm (h2 _ _ ?_); clear h2; try clear K2
  refine CW.ret (ret1 Try.results71 (by simp only [upd_get, ev, Nat.reduceEqDiff, ↓reduceIte]; rfl) ?_)
  exact ⟨rfl, rfl⟩
theorem keptB_c {F : Nat → Prop} (b : Bat) {rs : List Rq} (w : World) (hb : Rs F w b.reqs rs) (hn : rs.length ≤ 1000000) :
    Calls Try.prog 72 #[agg b] w fun e w' => ∃ v' g, e = .returned (agg (⟨b.fill, b.view, b.tip, b.time, v'⟩ : Bat)) ∧ SH Non Non w w' [.O 32 v' rs g] := by
  obtain ⟨b1, b2, ⟨b3, b4⟩, b5, b6⟩ := b
  dsimp only at hb ⊢
  have H := (SH.start w).arg hb
  refine calls_of_CW Try.func72 rfl Try.ntmps72 (Nat.le_of_ble_eq_true rfl) ?_
  simp only [argE, argFrom, Nat.reduceAdd]
  refine CW.seq (fun K1 h1 => ?_)
  refine CW.region ?_
  refine s_box H rfl (by simp only [upd_get, ev, Nat.reduceEqDiff, ↓reduceIte] <;> rfl) rfl ?_
  clear H
  intro b0_0 w0_0 H
  try dsimp only [replC, List.cons_append, List.nil_append, List.append_nil, agg, cellsL, Value.cells, List.toList_toArray, List.set_cons_zero, List.set_cons_succ, spliceL, List.take_succ_cons, List.take_zero, List.drop_succ_cons, List.drop_zero, List.length_cons, List.length_nil, Nat.reduceAdd, Row.cells, Cm.L, Rq.L, Tp.L, Bat.L, Vt.L] at H
  refine s_alloc (cs := [.bool false, .int .i64 0, .int .i64 0, .int .i64 0, .int .i64 0, .slice none 0 0]) H rfl Try.zeroValue27 rfl ?_
  clear H
  intro b0_1 w0_1 H
  try dsimp only [replC, List.cons_append, List.nil_append, List.append_nil, agg, cellsL, Value.cells, List.toList_toArray, List.set_cons_zero, List.set_cons_succ, spliceL, List.take_succ_cons, List.take_zero, List.drop_succ_cons, List.drop_zero, List.length_cons, List.length_nil, Nat.reduceAdd, Row.cells, Cm.L, Rq.L, Tp.L, Bat.L, Vt.L] at H
  refine LW.nil ?_
  refine thenE_norm (h1 _ _ ?_); clear h1; try clear K1
  refine CW.seq (fun K2 h2 => ?_)
  refine CW.region ?_
  refine r_fieldAddrO rfl Try.underlying27 rfl Try.sizeOf25 (by decide) (show _ = 5 from rfl) rfl ?_
  refine r_load rfl Try.isAgg25 rfl (by first | exact SH.cellB H (by (repeat first | exact At.here | apply At.there); done) (by rfl) | assumption) ?_
  refine r_call rfl Try.call66 (by simp only [List.map_cons, List.map_nil, List.map_toArray, List.toList_toArray, upd_get, ev, Nat.reduceEqDiff, ↓reduceIte] <;> rfl) (CloneQ_c _ (by first | assumption | exact SH.rsR H (by (repeat first | exact At.here | apply At.there); done) | exact SH.rsO H (by (repeat first | exact At.here | apply At.there); done) | exact (Rs.nil : Rs Non _ _ _)) (by first | omega | (simp only [List.length_append, List.length_cons, List.length_nil]; omega) | (simp; omega))) ?_
  rintro _ w1_2 ⟨v1_2, g1_2, rfl, K⟩
  refine ⟨_, rfl, ?_⟩
  replace H := SH.call H K
  clear K
  try dsimp only [replC, List.cons_append, List.nil_append, List.append_nil] at H
  refine r_fieldAddrO rfl Try.underlying27 rfl Try.sizeOf25 (by decide) (show _ = 5 from rfl) rfl ?_
  refine s_store H Try.sizeOf25 rfl (by simp only [upd_get, ev, Nat.reduceEqDiff, ↓reduceIte] <;> rfl) (by first | rfl | assumption | exact Rs.oneC (by first | assumption | exact SH.rsR H (by (repeat first | exact At.here | apply At.there); done) | exact SH.rsO H (by (repeat first | exact At.here | apply At.there); done) | exact (Rs.nil : Rs Non _ _ _)) | (simp only [List.all_cons, List.all_nil, Bool.and_true, Bool.and_eq_true, Row.cells, Cm.L, Rq.L, Tp.L, Bat.L, Vt.L]; (repeat' constructor) <;> first | rfl | assumption | exact Rs.oneC (by first | assumption | exact SH.rsR H (by (repeat first | exact At.here | apply At.there); done) | exact SH.rsO H (by (repeat first | exact At.here | apply At.there); done) | exact (Rs.nil : Rs Non _ _ _)))) (by (repeat first | exact At.here | apply At.there); done) (by first | (simp; done) | decide | omega) ?_
  clear H
  intro w1_4 H
  try dsimp only [replC, List.cons_append, List.nil_append, List.append_nil, agg, cellsL, Value.cells, List.toList_toArray, List.set_cons_zero, List.set_cons_succ, spliceL, List.take_succ_cons, List.take_zero, List.drop_succ_cons, List.drop_zero, List.length_cons, List.length_nil, Nat.reduceAdd, Row.cells, Cm.L, Rq.L, Tp.L, Bat.L, Vt.L] at H
  refine LW.nil ?_
  refine thenE_norm (h2 _ _ ?_); clear h2; try clear K2
  refine CW.seq (fun K3 h3 => ?_)
  refine CW.region ?_
  refine r_loadA rfl Try.isAgg27 Try.sizeOf27 rfl (by first | exact SH.cells H (by (repeat first | exact At.here | apply At.there); done)) (by rfl) ?_
  refine s_storeA H Try.sizeOf27 rfl (by simp only [upd_get, ev, Nat.reduceEqDiff, ↓reduceIte] <;> rfl) (by simp only [cellsL, agg, List.toList_toArray, Row.cells, Cm.L, Rq.L, Tp.L, Bat.L, Vt.L] <;> rfl) (by rfl) (by first | rfl | assumption | exact Rs.oneC (by first | assumption | exact SH.rsR H (by (repeat first | exact At.here | apply At.there); done) | exact SH.rsO H (by (repeat first | exact At.here | apply At.there); done) | exact (Rs.nil : Rs Non _ _ _)) | (simp only [List.all_cons, List.all_nil, Bool.and_true, Bool.and_eq_true, Row.cells, Cm.L, Rq.L, Tp.L, Bat.L, Vt.L]; (repeat' constructor) <;> first | rfl | assumption | exact Rs.oneC (by first | assumption | exact SH.rsR H (by (repeat first | exact At.here | apply At.there); done) | exact SH.rsO H (by (repeat first | exact At.here | apply At.there); done) | exact (Rs.nil : Rs Non _ _ _)))) (by (repeat first | exact At.here | apply At.there); done) (by first | (simp; done) | decide | (show _ ≤ _; decide)) ?_
  clear H
  intro w2_1 H
  try dsimp only [replC, List.cons_append, List.nil_append, List.append_nil, agg, cellsL, Value.cells, List.toList_toArray, List.set_cons_zero, List.set_cons_succ, spliceL, List.take_succ_cons, List.take_zero, List.drop_succ_cons, List.drop_zero, List.length_cons, List.length_nil, Nat.reduceAdd, Row.cells, Cm.L, Rq.L, Tp.L, Bat.L, Vt.L] at H
  refine LW.nil ?_
  refine thenE_norm ?_
  refine cut (K := K3) [2] (fun σ => ?_)
  simp only [setL, keepE, upd_get, ev, Nat.reduceEqDiff, ↓reduceIte]
  refine h3 _ _ ?_; clear h3; try clear K3
  refine CW.ret (retC1 Try.results72 (by simp only [upd_get, ev, Nat.reduceEqDiff, ↓reduceIte] <;> rfl) Try.isAgg27 Try.sizeOf27 (by exact SH.cells H (by (repeat first | exact At.here | apply At.there); done)) (by rfl) ?_)
  exact ⟨_, _, rfl, (SH.give (SH.sel H [3] (by decide) rfl) (List.Sublist.refl _) (by repeat first | exact trivial | refine ⟨trivial, ?_⟩))⟩
theorem AccNew_c (w : World) : Calls Try.prog 27 #[] w fun e w' => ∃ p FN, e = .returned (.pointer (some ⟨p, 0, none⟩)) ∧ SH Non Non w w' [.P FN (AccA p ⟨0, 0, []⟩ FN)] := by
  have H := SH.start (U := Non) (G := Any) w
  refine calls_of_CW Try.func27 rfl Try.ntmps27 (Nat.le_of_ble_eq_true rfl) ?_
  simp only [argE, argFrom, Nat.reduceAdd]
  refine CW.seq (fun K1 h1 => ?_)
  refine CW.region ?_
  refine r_assign rfl ?_
  refine LW.nil ?_
  refine thenE_norm (h1 _ _ ?_); clear h1; try clear K1
  refine CW.seq (fun K2 h2 => ?_)
  refine CW.region ?_
  refine r_buildQ rfl Try.underlying117 Try.zeroValue117 rfl (pl := [(0, 1), (1, 1), (2, 1)]) (by intro w; simp [go_sem]) (qs := []) (cs := [.int .i64 0, .int .i64 0, .slice none 0 0]) trivial rfl ?_
  refine s_box H rfl (by simp only [upd_get, ev, Nat.reduceEqDiff, ↓reduceIte] <;> rfl) rfl ?_
  clear H
  intro b1_1 w1_1 H
  try dsimp only [replC, List.cons_append, List.nil_append, List.append_nil, agg, cellsL, Value.cells, List.toList_toArray, List.set_cons_zero, List.set_cons_succ, spliceL, List.take_succ_cons, List.take_zero, List.drop_succ_cons, List.drop_zero, List.length_cons, List.length_nil, Nat.reduceAdd, Row.cells, Cm.L, Rq.L, Tp.L, Bat.L, Vt.L] at H
  refine r_assign rfl ?_
  refine LW.nil ?_
  refine thenE_norm (h2 _ _ ?_); clear h2; try clear K2
  refine CW.ret (ret1 Try.results27 (by simp only [upd_get, ev, Nat.reduceEqDiff, ↓reduceIte]; rfl) ?_)
  obtain ⟨FN, H4⟩ := AccA.mk ⟨by decide, by decide, by decide, by decide, UpK.nil, fun m h => by cases h⟩ (addVs (H.addO (α := Vt) 61))
  exact ⟨_, _, rfl, H4⟩
theorem Promise_c {p : Nat} {s : AcS} {FN : Nat → Prop} (b : Int) (w : World) (hN : AccA p s FN w) :
    Calls Try.prog 28 #[.pointer (some ⟨p, 0, none⟩), .int .i64 b] w fun e w' => ∃ FN', e = .returned (.int .i64 (promM s b).2) ∧ SH FN Non w w' [.P FN' (AccA p (promM s b).1 FN')] := by
  obtain ⟨hok, v, raws, g, F, hA⟩ := hN
  have H := SH.obj (G := Any) hA
  have hok' := prom_ok b hok
  obtain ⟨s1, s2, s3⟩ := s
  dsimp only at H
  refine calls_of_CW Try.func28 rfl Try.ntmps28 (Nat.le_of_ble_eq_true rfl) ?_
  simp only [argE, argFrom, Nat.reduceAdd]
  refine CW.seq (fun K1 h1 => ?_)
  refine CW.region ?_
  refine r_assign rfl ?_
  refine LW.nil ?_
  refine thenE_norm (h1 _ _ ?_); clear h1; try clear K1
  refine CW.seq (fun K2 h2 => ?_)
  refine CW.block ?_
  refine CW.seq (fun K3 h3 => ?_)
  refine CW.region ?_
  refine r_move rfl ?_
  refine r_eqlP rfl Try.underlying53 rfl rfl ?_
  refine r_assign rfl ?_
  refine LW.nil ?_
  refine thenE_norm (h3 _ _ ?_); clear h3; try clear K3
  refine CW.condF rfl (by first | rfl | (simp only [decide_eq_true_eq, decide_eq_false_iff_not, Bool.and_eq_true, Bool.or_eq_true, Bool.and_eq_false_iff, Bool.or_eq_false_iff, Bool.not_eq_true', Bool.not_eq_false', beq_iff_eq, bne_iff_ne]; omega) | simp_all) ?_
  refine CW.seq (fun K4 h4 => ?_)
  refine CW.region ?_
  refine r_move rfl ?_
  refine r_call rfl Try.call71 (by simp only [List.map_cons, List.map_nil, List.map_toArray, List.toList_toArray, upd_get, ev, Nat.reduceEqDiff, ↓reduceIte] <;> rfl) (isNumA_c _ _) ?_
  rintro _ _ ⟨rfl, rfl⟩
  refine ⟨_, rfl, ?_⟩
  refine r_not rfl rfl ?_
  refine r_assign rfl ?_
  refine LW.nil ?_
  refine thenE_norm ?_
  refine cut (K := K4) [0, 1, 8] (fun σ => ?_)
  simp only [setL, keepE, upd_get, ev, Nat.reduceEqDiff, ↓reduceIte]
  refine h4 _ _ ?_; clear h4; try clear K4
  refine CW.cond rfl (fun hc2 => ?_) (fun hc2 => ?_)
  · try simp only [decide_eq_true_eq, decide_eq_false_iff_not, Bool.and_eq_true, Bool.or_eq_true, Bool.and_eq_false_iff, Bool.or_eq_false_iff, Bool.not_eq_true', Bool.not_eq_false', beq_iff_eq, bne_iff_ne, ne_eq, Decidable.not_not] at hc2
    refine CW.seq (fun K5 h5 => ?_)
    refine CW.region ?_
    refine r_assign rfl ?_
    refine LW.nil ?_
    refine thenE_norm (h5 _ _ ?_); clear h5; try clear K5
    refine CW.ret (blockE_ret (thenE_ret (ret1 Try.results28 (by simp only [upd_get, ev, Nat.reduceEqDiff, ↓reduceIte]; rfl) ?_)))
    rw [promM, if_neg (by rw [hc2]; decide)]
    obtain ⟨FN', K⟩ := AccA.mk hok (SH.sel H [0, 1, 2] (by decide) (by rfl))
    exact ⟨_, rfl, K⟩
  · try simp only [decide_eq_true_eq, decide_eq_false_iff_not, Bool.and_eq_true, Bool.or_eq_true, Bool.and_eq_false_iff, Bool.or_eq_false_iff, Bool.not_eq_true', Bool.not_eq_false', beq_iff_eq, bne_iff_ne, ne_eq, Decidable.not_not] at hc2
    refine CW.seq (fun K6 h6 => ?_)
    refine CW.region ?_
    refine r_move rfl ?_
    refine r_move rfl ?_
    refine r_nilCheck rfl rfl ?_
    refine r_fieldAddrO rfl Try.underlying117 rfl Try.sizeOf3 (by decide) (show _ = 0 from rfl) rfl ?_
    refine r_load rfl Try.isAgg3 rfl (by first | exact SH.cellB H (by (repeat first | exact At.here | apply At.there); done) (by rfl) | exact SH.cellI H (by (repeat first | exact At.here | apply At.there); done) (by rfl) | assumption) ?_
    refine r_lss rfl rfl rfl ?_
    refine r_assign rfl ?_
    refine LW.nil ?_
    refine thenE_norm (h6 _ _ ?_); clear h6; try clear K6
    refine CW.cond rfl (fun hc3 => ?_) (fun hc3 => ?_)
    · try simp only [decide_eq_true_eq, decide_eq_false_iff_not, Bool.and_eq_true, Bool.or_eq_true, Bool.and_eq_false_iff, Bool.or_eq_false_iff, Bool.not_eq_true', Bool.not_eq_false', beq_iff_eq, bne_iff_ne, ne_eq, Decidable.not_not] at hc3
      refine CW.seq (fun K7 h7 => ?_)
      refine CW.region ?_
      refine r_assign rfl ?_
      refine LW.nil ?_
      refine thenE_norm ?_
      refine cut (K := K7) [4] (fun σ => ?_)
      simp only [setL, keepE, upd_get, ev, Nat.reduceEqDiff, ↓reduceIte]
      refine h7 _ _ ?_; clear h7; try clear K7
      refine CW.ret (blockE_ret (thenE_ret (ret1 Try.results28 (by simp only [upd_get, ev, Nat.reduceEqDiff, ↓reduceIte]; rfl) ?_)))
      rw [promM, if_pos hc2, if_pos hc3]
      obtain ⟨FN', K⟩ := AccA.mk hok (SH.sel H [0, 1, 2] (by decide) (by rfl))
      exact ⟨_, rfl, K⟩
    · try simp only [decide_eq_true_eq, decide_eq_false_iff_not, Bool.and_eq_true, Bool.or_eq_true, Bool.and_eq_false_iff, Bool.or_eq_false_iff, Bool.not_eq_true', Bool.not_eq_false', beq_iff_eq, bne_iff_ne, ne_eq, Decidable.not_not] at hc3
      refine CW.skip ?_
      refine blockE_norm ?_
      refine thenE_norm (h2 _ _ ?_); clear h2; try clear K2
      refine CW.seq (fun K8 h8 => ?_)
      refine CW.region ?_
      refine r_move rfl ?_
      refine r_move rfl ?_
      refine r_nilCheck rfl rfl ?_
      refine r_fieldAddrO rfl Try.underlying117 rfl Try.sizeOf3 (by decide) (show _ = 0 from rfl) rfl ?_
      refine s_store H Try.sizeOf3 rfl (by simp only [upd_get, ev, Nat.reduceEqDiff, ↓reduceIte] <;> rfl) (by first | rfl | assumption | exact Rs.oneC (by first | assumption | exact SH.rsR H (by (repeat first | exact At.here | apply At.there); done) | exact SH.rsO H (by (repeat first | exact At.here | apply At.there); done) | exact (Rs.nil : Rs Non _ _ _)) | (simp only [List.all_cons, List.all_nil, Bool.and_true, Bool.and_eq_true, Row.cells, Cm.L, Rq.L, Tp.L, Bat.L, Vt.L]; (repeat' constructor) <;> first | rfl | assumption | exact Rs.oneC (by first | assumption | exact SH.rsR H (by (repeat first | exact At.here | apply At.there); done) | exact SH.rsO H (by (repeat first | exact At.here | apply At.there); done) | exact (Rs.nil : Rs Non _ _ _)))) (by (repeat first | exact At.here | apply At.there); done) (by first | (simp; done) | decide | omega) ?_
      clear H
      intro w7_4 H
      try dsimp only [replC, List.cons_append, List.nil_append, List.append_nil, agg, cellsL, Value.cells, List.toList_toArray, List.set_cons_zero, List.set_cons_succ, spliceL, List.take_succ_cons, List.take_zero, List.drop_succ_cons, List.drop_zero, List.length_cons, List.length_nil, Nat.reduceAdd, Row.cells, Cm.L, Rq.L, Tp.L, Bat.L, Vt.L] at H
      refine LW.nil ?_
      refine thenE_norm ?_
      refine cut (K := K8) [] (fun σ => ?_)
      simp only [setL, keepE, upd_get, ev, Nat.reduceEqDiff, ↓reduceIte]
      refine h8 _ _ ?_; clear h8; try clear K8
      refine CW.seq (fun K9 h9 => ?_)
      refine CW.region ?_
      refine r_assign rfl ?_
      refine LW.nil ?_
      refine thenE_norm (h9 _ _ ?_); clear h9; try clear K9
      refine CW.ret (ret1 Try.results28 (by simp only [upd_get, ev, Nat.reduceEqDiff, ↓reduceIte]; rfl) ?_)
      rw [promM, if_pos hc2, if_neg hc3] at hok' ⊢
      obtain ⟨FN', K⟩ := AccA.mk hok' (SH.sel H [0, 1, 2] (by decide) (by rfl))
      exact ⟨_, rfl, K⟩
theorem PromiseZ_c (b : Int) (w : World) : Calls Try.prog 28 #[.pointer none, .int .i64 b] w fun e w' => e = .returned (.int .i64 6) ∧ Ext0 w w' := by
  have H := SH.start (U := Non) (G := Any) w
  refine calls_of_CW Try.func28 rfl Try.ntmps28 (Nat.le_of_ble_eq_true rfl) ?_
  simp only [argE, argFrom, Nat.reduceAdd]
  refine CW.seq (fun K1 h1 => ?_)
  refine CW.region ?_
  refine r_assign rfl ?_
  refine LW.nil ?_
  refine thenE_norm (h1 _ _ ?_); clear h1; try clear K1
  refine CW.seq (fun K2 h2 => ?_)
  refine CW.block ?_
  refine CW.seq (fun K3 h3 => ?_)
  refine CW.region ?_
  refine r_move rfl ?_
  refine r_eqlP rfl Try.underlying53 rfl rfl ?_
  refine r_assign rfl ?_
  refine LW.nil ?_
  refine thenE_norm (h3 _ _ ?_); clear h3; try clear K3
  refine CW.condT rfl (by first | rfl | (simp only [decide_eq_true_eq, decide_eq_false_iff_not, Bool.and_eq_true, Bool.or_eq_true, Bool.and_eq_false_iff, Bool.or_eq_false_iff, Bool.not_eq_true', Bool.not_eq_false', beq_iff_eq, bne_iff_ne]; omega) | simp_all) ?_
  refine CW.seq (fun K4 h4 => ?_)
  refine CW.region ?_
  refine r_assign rfl ?_
  refine LW.nil ?_
  refine thenE_norm (h4 _ _ ?_); clear h4; try clear K4
  refine CW.ret (blockE_ret (thenE_ret (ret1 Try.results28 (by simp only [upd_get, ev, Nat.reduceEqDiff, ↓reduceIte]; rfl) ?_)))
  exact ⟨rfl, H.ext⟩
set_option maxHeartbeats 8000000 in
theorem Accept_c {F2 : Nat → Prop} {p : Nat} {s : AcS} {FN : Nat → Prop} (b sl : Int) (x : Bat) {rs : List Rq} (w : World) (hN : AccA p s FN w) (hb : Rs F2 w x.reqs rs) (hd : ∀ b, F2 b → ¬ FN b) (hsm : smallQ rs) :
    Calls Try.prog 29 #[.pointer (some ⟨p, 0, none⟩), .int .i64 b, .int .i64 sl, agg x] w fun e w' => ∃ FN', e = .returned (.int .i64 (accM s (vmB sl b x rs)).2) ∧ SH FN Non w w' [.P FN' (AccA p (accM s (vmB sl b x rs)).1 FN')] := by
  obtain ⟨hok, v, raws, g, F, hA⟩ := hN
  obtain ⟨x1, x2, ⟨x3, x4⟩, x5, x6⟩ := x
  dsimp only at hb
  have H := SH.argU (SH.obj (G := Any) hA) hb hd
  have hok' := acc_ok (vmB sl b ⟨x1, x2, ⟨x3, x4⟩, x5, x6⟩ rs) hok
  have hms : VtsA F raws s.l w := SH.prop H (i := 2) rfl
  have hl := All2.len hms
  have hl9 := hok.len
  have hup := all2_up vtr_key hms hok.up
  have hok0 := hok
  obtain ⟨q1, q2, q3, q4, -, -⟩ := hok
  obtain ⟨s1, s2, s3⟩ := s
  dsimp only at H hl hl9 q1 q2 q3 q4 hms
  have ho6 : oneC x6 = true := Rs.oneC hb
  have hat := atK_le Vt.slot raws sl
  refine calls_of_CW Try.func29 rfl Try.ntmps29 (Nat.le_of_ble_eq_true rfl) ?_
  simp only [argE, argFrom, Nat.reduceAdd]
  refine CW.seq (fun K1 h1 => ?_)
  refine CW.region ?_
  refine s_box H rfl (by simp only [upd_get, ev, Nat.reduceEqDiff, ↓reduceIte] <;> rfl) rfl ?_
  clear H
  intro b0_0 w0_0 H
  try dsimp only [replC, List.cons_append, List.nil_append, List.append_nil, agg, cellsL, Value.cells, List.toList_toArray, List.set_cons_zero, List.set_cons_succ, spliceL, List.take_succ_cons, List.take_zero, List.drop_succ_cons, List.drop_zero, List.length_cons, List.length_nil, Nat.reduceAdd, Row.cells, Cm.L, Rq.L, Tp.L, Bat.L, Vt.L] at H
  refine r_assign rfl ?_
  refine LW.nil ?_
  refine thenE_norm (h1 _ _ ?_); clear h1; try clear K1
  refine CW.seq (fun K2 h2 => ?_)
  refine CW.block ?_
  refine CW.seq (fun K3 h3 => ?_)
  refine CW.region ?_
  refine r_move rfl ?_
  refine r_eqlP rfl Try.underlying53 rfl rfl ?_
  refine r_assign rfl ?_
  refine LW.nil ?_
  refine thenE_norm (h3 _ _ ?_); clear h3; try clear K3
  refine CW.condF rfl (by first | rfl | (simp only [decide_eq_true_eq, decide_eq_false_iff_not, Bool.and_eq_true, Bool.or_eq_true, Bool.and_eq_false_iff, Bool.or_eq_false_iff, Bool.not_eq_true', Bool.not_eq_false', beq_iff_eq, bne_iff_ne]; omega) | simp_all) ?_
  refine CW.seq (fun K4 h4 => ?_)
  refine CW.region ?_
  refine r_move rfl ?_
  refine r_call rfl Try.call71 (by simp only [List.map_cons, List.map_nil, List.map_toArray, List.toList_toArray, upd_get, ev, Nat.reduceEqDiff, ↓reduceIte] <;> rfl) (isNumA_c _ _) ?_
  rintro _ _ ⟨rfl, rfl⟩
  refine ⟨_, rfl, ?_⟩
  refine r_not rfl rfl ?_
  refine r_move rfl ?_
  refine' LW.grpOr (n := 3) (ts := [0, 1, 2, 7, 23, 27]) (d := 22) (tj := 19) rfl (fun hg3_4 => ?_) (fun hg3_4 => ?_) (fun σ => ?_)
  rotate_left
  · simp only [List.take_succ_cons, List.take_zero]
    have hg3_4P := hg3_4
    try simp only [decide_eq_true_eq, decide_eq_false_iff_not, Bool.and_eq_true, Bool.or_eq_true, Bool.and_eq_false_iff, Bool.or_eq_false_iff, Bool.not_eq_true', Bool.not_eq_false', beq_iff_eq, bne_iff_ne] at hg3_4P
    refine LW.want rfl rfl hg3_4 ?_
    refine r_move rfl ?_
    refine LW.want rfl rfl hg3_4 ?_
    refine r_lss rfl rfl rfl ?_
    refine r_pickF rfl rfl hg3_4 ?_
    refine LW.nil (thenE_norm ⟨rfl, rfl, rfl⟩)
  · simp only [List.take_succ_cons, List.take_zero]
    refine LW.skip rfl (fun _ e => by cases e; decide) rfl hg3_4 ?_
    refine LW.skip rfl (fun _ e => by cases e; decide) rfl hg3_4 ?_
    refine r_pickT rfl rfl hg3_4 ?_
    refine LW.nil (thenE_norm ⟨rfl, rfl, rfl⟩)
  simp only [setL, keepE, upd_get, ev, Nat.reduceEqDiff, ↓reduceIte]; simp only [List.drop_succ_cons, List.drop_zero]
  refine r_move rfl ?_
  refine' LW.grpOr (n := 3) (ts := [0, 1, 2, 7, 27]) (d := 26) (tj := 23) rfl (fun hg3_8 => ?_) (fun hg3_8 => ?_) (fun σ => ?_)
  rotate_left
  · simp only [List.take_succ_cons, List.take_zero]
    have hg3_8P := hg3_8
    try simp only [decide_eq_true_eq, decide_eq_false_iff_not, Bool.and_eq_true, Bool.or_eq_true, Bool.and_eq_false_iff, Bool.or_eq_false_iff, Bool.not_eq_true', Bool.not_eq_false', beq_iff_eq, bne_iff_ne] at hg3_8P
    refine LW.want rfl rfl hg3_8 ?_
    refine r_move rfl ?_
    refine LW.want rfl rfl hg3_8 ?_
    refine r_gtr rfl rfl rfl ?_
    refine r_pickF rfl rfl hg3_8 ?_
    refine LW.nil (thenE_norm ⟨rfl, rfl, rfl⟩)
  · simp only [List.take_succ_cons, List.take_zero]
    refine LW.skip rfl (fun _ e => by cases e; decide) rfl hg3_8 ?_
    refine LW.skip rfl (fun _ e => by cases e; decide) rfl hg3_8 ?_
    refine r_pickT rfl rfl hg3_8 ?_
    refine LW.nil (thenE_norm ⟨rfl, rfl, rfl⟩)
  simp only [setL, keepE, upd_get, ev, Nat.reduceEqDiff, ↓reduceIte]; simp only [List.drop_succ_cons, List.drop_zero]
  refine r_move rfl ?_
  refine LW.splitB (t := 27) rfl (fun hg3_12 => ?_) (fun hg3_12 => ?_)
  · have hg3_12P := hg3_12
    try simp only [decide_eq_true_eq, decide_eq_false_iff_not, Bool.and_eq_true, Bool.or_eq_true, Bool.and_eq_false_iff, Bool.or_eq_false_iff, Bool.not_eq_true', Bool.not_eq_false', beq_iff_eq, bne_iff_ne] at hg3_12P
    refine LW.skip rfl (fun _ e => by cases e; decide) rfl hg3_12 ?_
    refine LW.skip rfl (fun _ e => by cases e; decide) rfl hg3_12 ?_
    refine LW.skip rfl (fun _ e => by cases e; decide) rfl hg3_12 ?_
    refine r_pickT rfl rfl hg3_12 ?_
    refine r_assign rfl ?_
    refine LW.nil ?_
    refine thenE_norm (h4 _ _ ?_); clear h4; try clear K4
    refine CW.condT rfl (by first | rfl | (simp only [decide_eq_true_eq, decide_eq_false_iff_not, Bool.and_eq_true, Bool.or_eq_true, Bool.and_eq_false_iff, Bool.or_eq_false_iff, Bool.not_eq_true', Bool.not_eq_false', beq_iff_eq, bne_iff_ne]; omega) | simp_all) ?_
    refine CW.seq (fun K5 h5 => ?_)
    refine CW.region ?_
    refine r_assign rfl ?_
    refine LW.nil ?_
    refine thenE_norm (h5 _ _ ?_); clear h5; try clear K5
    refine CW.ret (blockE_ret (thenE_ret (ret1 Try.results29 (by simp only [upd_get, ev, Nat.reduceEqDiff, ↓reduceIte]; rfl) ?_)))
    have hno : ¬ (highM b 0 = true ∧ 1 ≤ sl ∧ sl ≤ 2305843009213693952 ∧ mayV (vmB sl b ⟨x1, x2, ⟨x3, x4⟩, x5, x6⟩ rs) = true) := by
      rintro ⟨h1, h2, h3, -⟩
      rcases hg3_12P with (h | h) | h
      · rw [h1] at h; cases h
      · omega
      · omega
    rw [acc_no (s := ⟨s1, s2, s3⟩) (m := vmB sl b ⟨x1, x2, ⟨x3, x4⟩, x5, x6⟩ rs) hno]
    obtain ⟨FN', K⟩ := AccA.mk hok0 (SH.sel H [0, 1, 2] (by decide) (by rfl))
    exact ⟨_, rfl, K⟩
  · have hg3_12P := hg3_12
    try simp only [decide_eq_true_eq, decide_eq_false_iff_not, Bool.and_eq_true, Bool.or_eq_true, Bool.and_eq_false_iff, Bool.or_eq_false_iff, Bool.not_eq_true', Bool.not_eq_false', beq_iff_eq, bne_iff_ne] at hg3_12P
    refine LW.want rfl rfl hg3_12 ?_
    refine r_loadA rfl Try.isAgg27 Try.sizeOf27 rfl (by first | exact SH.cells H (by (repeat first | exact At.here | apply At.there); done)) (by rfl) ?_
    refine LW.want rfl rfl hg3_12 ?_
    refine r_call rfl Try.call19 (by simp only [List.map_cons, List.map_nil, List.map_toArray, List.toList_toArray, upd_get, ev, Nat.reduceEqDiff, ↓reduceIte] <;> rfl) (MayBat_c ⟨_, _, ⟨_, _⟩, _, _⟩ _ (SH.rsR H (i := 3) rfl) hsm) ?_
    rintro _ w3_13 ⟨rfl, X⟩
    refine ⟨_, rfl, ?_⟩
    replace H := SH.same H X
    clear X
    refine LW.want rfl rfl hg3_12 ?_
    refine r_not rfl rfl ?_
    refine r_pickF rfl rfl hg3_12 ?_
    refine r_assign rfl ?_
    refine LW.nil ?_
    refine thenE_norm (h4 _ _ ?_); clear h4; try clear K4
    refine CW.cond rfl (fun hc2 => ?_) (fun hc2 => ?_)
    · try simp only [decide_eq_true_eq, decide_eq_false_iff_not, Bool.and_eq_true, Bool.or_eq_true, Bool.and_eq_false_iff, Bool.or_eq_false_iff, Bool.not_eq_true', Bool.not_eq_false', beq_iff_eq, bne_iff_ne, ne_eq, Decidable.not_not] at hc2
      refine CW.seq (fun K6 h6 => ?_)
      refine CW.region ?_
      refine r_assign rfl ?_
      refine LW.nil ?_
      refine thenE_norm ?_
      refine cut (K := K6) [8] (fun σ => ?_)
      simp only [setL, keepE, upd_get, ev, Nat.reduceEqDiff, ↓reduceIte]
      refine h6 _ _ ?_; clear h6; try clear K6
      refine CW.ret (blockE_ret (thenE_ret (ret1 Try.results29 (by simp only [upd_get, ev, Nat.reduceEqDiff, ↓reduceIte]; rfl) ?_)))
      have hno : ¬ (highM b 0 = true ∧ 1 ≤ sl ∧ sl ≤ 2305843009213693952 ∧ mayV (vmB sl b ⟨x1, x2, ⟨x3, x4⟩, x5, x6⟩ rs) = true) := by
        rintro ⟨-, -, -, h4⟩
        exact Bool.false_ne_true (hc2.symm.trans h4)
      rw [acc_no (s := ⟨s1, s2, s3⟩) (m := vmB sl b ⟨x1, x2, ⟨x3, x4⟩, x5, x6⟩ rs) hno]
      obtain ⟨FN', K⟩ := AccA.mk hok0 (SH.sel H [0, 1, 2] (by decide) (by rfl))
      exact ⟨_, rfl, K⟩
    · try simp only [decide_eq_true_eq, decide_eq_false_iff_not, Bool.and_eq_true, Bool.or_eq_true, Bool.and_eq_false_iff, Bool.or_eq_false_iff, Bool.not_eq_true', Bool.not_eq_false', beq_iff_eq, bne_iff_ne, ne_eq, Decidable.not_not] at hc2
      have hgo : highM b 0 = true ∧ 1 ≤ sl ∧ sl ≤ 2305843009213693952 ∧ mayV (vmB sl b ⟨x1, x2, ⟨x3, x4⟩, x5, x6⟩ rs) = true := ⟨hg3_12P.1.1, by omega, by omega, hc2⟩
      have hl3 := mayBat_len hc2
      refine CW.seq (fun K7 h7 => ?_)
      refine CW.region ?_
      refine r_move rfl ?_
      refine r_move rfl ?_
      refine r_nilCheck rfl rfl ?_
      refine r_fieldAddrO rfl Try.underlying117 rfl Try.sizeOf3 (by decide) (show _ = 0 from rfl) rfl ?_
      refine r_load rfl Try.isAgg3 rfl (by first | exact SH.cellB H (by (repeat first | exact At.here | apply At.there); done) (by rfl) | exact SH.cellI H (by (repeat first | exact At.here | apply At.there); done) (by rfl) | assumption) ?_
      refine r_lss rfl rfl rfl ?_
      refine r_move rfl ?_
      refine' LW.grpOr (n := 7) (ts := [0, 1, 2, 7]) (d := 46) (tj := 39) rfl (fun hg5_7 => ?_) (fun hg5_7 => ?_) (fun σ => ?_)
      rotate_left
      · simp only [List.take_succ_cons, List.take_zero]
        have hg5_7P := hg5_7
        try simp only [decide_eq_true_eq, decide_eq_false_iff_not, Bool.and_eq_true, Bool.or_eq_true, Bool.and_eq_false_iff, Bool.or_eq_false_iff, Bool.not_eq_true', Bool.not_eq_false', beq_iff_eq, bne_iff_ne] at hg5_7P
        refine LW.want rfl rfl hg5_7 ?_
        refine r_move rfl ?_
        refine LW.want rfl rfl hg5_7 ?_
        refine r_move rfl ?_
        refine LW.want rfl rfl hg5_7 ?_
        refine r_nilCheck rfl rfl ?_
        refine LW.want rfl rfl hg5_7 ?_
        refine r_fieldAddrO rfl Try.underlying117 rfl Try.sizeOf3 (by decide) (show _ = 1 from rfl) rfl ?_
        refine LW.want rfl rfl hg5_7 ?_
        refine r_load rfl Try.isAgg3 rfl (by first | exact SH.cellB H (by (repeat first | exact At.here | apply At.there); done) (by rfl) | exact SH.cellI H (by (repeat first | exact At.here | apply At.there); done) (by rfl) | assumption) ?_
        refine LW.want rfl rfl hg5_7 ?_
        refine r_leq rfl rfl rfl ?_
        refine r_pickF rfl rfl hg5_7 ?_
        refine LW.nil (thenE_norm ⟨rfl, rfl, rfl⟩)
      · simp only [List.take_succ_cons, List.take_zero]
        refine LW.skip rfl (fun _ e => by cases e; decide) rfl hg5_7 ?_
        refine LW.skip rfl (fun _ e => by cases e; decide) rfl hg5_7 ?_
        refine LW.skip rfl (fun _ e => by cases e; decide) rfl hg5_7 ?_
        refine LW.skip rfl (fun _ e => by cases e; decide) rfl hg5_7 ?_
        refine LW.skip rfl (fun _ e => by cases e; decide) rfl hg5_7 ?_
        refine LW.skip rfl (fun _ e => by cases e; decide) rfl hg5_7 ?_
        refine r_pickT rfl rfl hg5_7 ?_
        refine LW.nil (thenE_norm ⟨rfl, rfl, rfl⟩)
      simp only [setL, keepE, upd_get, ev, Nat.reduceEqDiff, ↓reduceIte]; simp only [List.drop_succ_cons, List.drop_zero]
      refine r_assign rfl ?_
      refine LW.nil ?_
      refine thenE_norm (h7 _ _ ?_); clear h7; try clear K7
      refine CW.cond rfl (fun hc3 => ?_) (fun hc3 => ?_)
      · try simp only [decide_eq_true_eq, decide_eq_false_iff_not, Bool.and_eq_true, Bool.or_eq_true, Bool.and_eq_false_iff, Bool.or_eq_false_iff, Bool.not_eq_true', Bool.not_eq_false', beq_iff_eq, bne_iff_ne, ne_eq, Decidable.not_not] at hc3
        refine CW.seq (fun K8 h8 => ?_)
        refine CW.region ?_
        refine r_assign rfl ?_
        refine LW.nil ?_
        refine thenE_norm (h8 _ _ ?_); clear h8; try clear K8
        refine CW.ret (blockE_ret (thenE_ret (ret1 Try.results29 (by simp only [upd_get, ev, Nat.reduceEqDiff, ↓reduceIte]; rfl) ?_)))
        rw [acc_old (s := ⟨s1, s2, s3⟩) (m := vmB sl b ⟨x1, x2, ⟨x3, x4⟩, x5, x6⟩ rs) hgo (show b < s1 ∨ sl ≤ s2 by omega)]
        obtain ⟨FN', K⟩ := AccA.mk hok0 (SH.sel H [0, 1, 2] (by decide) (by rfl))
        exact ⟨_, rfl, K⟩
      · try simp only [decide_eq_true_eq, decide_eq_false_iff_not, Bool.and_eq_true, Bool.or_eq_true, Bool.and_eq_false_iff, Bool.or_eq_false_iff, Bool.not_eq_true', Bool.not_eq_false', beq_iff_eq, bne_iff_ne, ne_eq, Decidable.not_not] at hc3
        refine CW.seq (fun K9 h9 => ?_)
        refine CW.region ?_
        refine r_move rfl ?_
        refine r_move rfl ?_
        refine r_nilCheck rfl rfl ?_
        refine r_fieldAddrO rfl Try.underlying117 rfl Try.sizeOf3 (by decide) (show _ = 1 from rfl) rfl ?_
        refine r_load rfl Try.isAgg3 rfl (by first | exact SH.cellB H (by (repeat first | exact At.here | apply At.there); done) (by rfl) | exact SH.cellI H (by (repeat first | exact At.here | apply At.there); done) (by rfl) | assumption) ?_
        refine r_sub rfl rfl rfl (wr_i64 (by omega) (by omega)) ?_
        refine r_gtr rfl rfl rfl ?_
        refine r_assign rfl ?_
        refine LW.nil ?_
        refine thenE_norm ?_
        refine cut (K := K9) [0, 1, 2, 7, 47] (fun σ => ?_)
        simp only [setL, keepE, upd_get, ev, Nat.reduceEqDiff, ↓reduceIte]
        refine h9 _ _ ?_; clear h9; try clear K9
        refine CW.cond rfl (fun hc4 => ?_) (fun hc4 => ?_)
        · try simp only [decide_eq_true_eq, decide_eq_false_iff_not, Bool.and_eq_true, Bool.or_eq_true, Bool.and_eq_false_iff, Bool.or_eq_false_iff, Bool.not_eq_true', Bool.not_eq_false', beq_iff_eq, bne_iff_ne, ne_eq, Decidable.not_not] at hc4
          refine CW.seq (fun K10 h10 => ?_)
          refine CW.region ?_
          refine r_assign rfl ?_
          refine LW.nil ?_
          refine thenE_norm (h10 _ _ ?_); clear h10; try clear K10
          refine CW.ret (blockE_ret (thenE_ret (ret1 Try.results29 (by simp only [upd_get, ev, Nat.reduceEqDiff, ↓reduceIte]; rfl) ?_)))
          rw [acc_full (s := ⟨s1, s2, s3⟩) (m := vmB sl b ⟨x1, x2, ⟨x3, x4⟩, x5, x6⟩ rs) hgo (show ¬ (b < s1 ∨ sl ≤ s2) by omega) (show 9 < sl - s2 by omega)]
          obtain ⟨FN', K⟩ := AccA.mk hok0 (SH.sel H [0, 1, 2] (by decide) (by rfl))
          exact ⟨_, rfl, K⟩
        · try simp only [decide_eq_true_eq, decide_eq_false_iff_not, Bool.and_eq_true, Bool.or_eq_true, Bool.and_eq_false_iff, Bool.or_eq_false_iff, Bool.not_eq_true', Bool.not_eq_false', beq_iff_eq, bne_iff_ne, ne_eq, Decidable.not_not] at hc4
          refine CW.skip ?_
          refine blockE_norm ?_
          refine thenE_norm (h2 _ _ ?_); clear h2; try clear K2
          refine CW.seq (fun K11 h11 => ?_)
          have hacc : accM ⟨s1, s2, s3⟩ (vmB sl b ⟨x1, x2, ⟨x3, x4⟩, x5, x6⟩ rs) = (⟨b, s2, putK Vm.slot s3 (vmB sl b ⟨x1, x2, ⟨x3, x4⟩, x5, x6⟩ rs)⟩, 0) := acc_put (s := ⟨s1, s2, s3⟩) (m := vmB sl b ⟨x1, x2, ⟨x3, x4⟩, x5, x6⟩ rs) hgo (show ¬ (b < s1 ∨ sl ≤ s2) by omega) (show ¬ 9 < sl - s2 by omega)
          rw [hacc] at hok'
          refine CW.region ?_
          refine r_move rfl ?_
          refine r_move rfl ?_
          refine r_nilCheck rfl rfl ?_
          refine r_fieldAddrO rfl Try.underlying117 rfl Try.sizeOf3 (by decide) (show _ = 0 from rfl) rfl ?_
          refine s_store H Try.sizeOf3 rfl (by simp only [upd_get, ev, Nat.reduceEqDiff, ↓reduceIte] <;> rfl) (by first | rfl | assumption | exact Rs.oneC (by first | assumption | exact SH.rsR H (by (repeat first | exact At.here | apply At.there); done) | exact SH.rsO H (by (repeat first | exact At.here | apply At.there); done) | exact (Rs.nil : Rs Non _ _ _)) | (simp only [List.all_cons, List.all_nil, Bool.and_true, Bool.and_eq_true, Row.cells, Cm.L, Rq.L, Tp.L, Bat.L, Vt.L]; (repeat' constructor) <;> first | rfl | assumption | exact Rs.oneC (by first | assumption | exact SH.rsR H (by (repeat first | exact At.here | apply At.there); done) | exact SH.rsO H (by (repeat first | exact At.here | apply At.there); done) | exact (Rs.nil : Rs Non _ _ _)))) (by (repeat first | exact At.here | apply At.there); done) (by first | (simp; done) | decide | omega) ?_
          clear H
          intro w9_4 H
          try dsimp only [replC, List.cons_append, List.nil_append, List.append_nil, agg, cellsL, Value.cells, List.toList_toArray, List.set_cons_zero, List.set_cons_succ, spliceL, List.take_succ_cons, List.take_zero, List.drop_succ_cons, List.drop_zero, List.length_cons, List.length_nil, Nat.reduceAdd, Row.cells, Cm.L, Rq.L, Tp.L, Bat.L, Vt.L] at H
          refine LW.nil ?_
          refine thenE_norm (h11 _ _ ?_); clear h11; try clear K11
          refine CW.seq (fun K12 h12 => ?_)
          refine CW.region ?_
          refine r_move rfl ?_
          refine r_move rfl ?_
          refine r_loadA rfl Try.isAgg27 Try.sizeOf27 rfl (by first | exact SH.cells H (by (repeat first | exact At.here | apply At.there); done)) (by rfl) ?_
          refine r_call rfl Try.call72 (by simp only [List.map_cons, List.map_nil, List.map_toArray, List.toList_toArray, upd_get, ev, Nat.reduceEqDiff, ↓reduceIte] <;> rfl) (keptB_c ⟨_, _, ⟨_, _⟩, _, _⟩ _ (SH.rsR H (i := 3) rfl) (by omega)) ?_
          rintro _ w10_3 ⟨v10_3, g10_3, rfl, K⟩
          refine ⟨_, rfl, ?_⟩
          replace H := SH.call H K
          clear K
          try dsimp only [replC, List.cons_append, List.nil_append, List.append_nil] at H
          refine r_buildQ rfl Try.underlying61 Try.zeroValue61 rfl (pl := [(0, 1), (1, 1), (2, 6)]) (by intro w; simp [go_sem]) (qs := [(0, [_]), (1, [_]), (2, [_, _, _, _, _, _])]) (cs := [_, _, _, _, _, _, _, _]) ⟨rfl, cells_one (by simp only [upd_get, ev, Nat.reduceEqDiff, ↓reduceIte] <;> rfl) (by first | rfl | exact Rs.oneC (by first | assumption | exact SH.rsR H (by (repeat first | exact At.here | apply At.there); done) | exact SH.rsO H (by (repeat first | exact At.here | apply At.there); done) | exact (Rs.nil : Rs Non _ _ _))), rfl, cells_one (by simp only [upd_get, ev, Nat.reduceEqDiff, ↓reduceIte] <;> rfl) (by first | rfl | exact Rs.oneC (by first | assumption | exact SH.rsR H (by (repeat first | exact At.here | apply At.there); done) | exact SH.rsO H (by (repeat first | exact At.here | apply At.there); done) | exact (Rs.nil : Rs Non _ _ _))), rfl, (by simp only [upd_get, ev, Nat.reduceEqDiff, ↓reduceIte, cellsL, agg, List.toList_toArray, Row.cells, Cm.L, Rq.L, Tp.L, Bat.L, Vt.L] <;> rfl), trivial⟩ rfl ?_
          refine s_alloc (cs := [.int .i64 0, .int .i64 0, .bool false, .int .i64 0, .int .i64 0, .int .i64 0, .int .i64 0, .slice none 0 0]) H rfl Try.zeroValue61 rfl ?_
          clear H
          intro b10_5 w10_5 H
          try dsimp only [replC, List.cons_append, List.nil_append, List.append_nil, agg, cellsL, Value.cells, List.toList_toArray, List.set_cons_zero, List.set_cons_succ, spliceL, List.take_succ_cons, List.take_zero, List.drop_succ_cons, List.drop_zero, List.length_cons, List.length_nil, Nat.reduceAdd, Row.cells, Cm.L, Rq.L, Tp.L, Bat.L, Vt.L] at H
          refine s_storeA H Try.sizeOf61 rfl (by simp only [upd_get, ev, Nat.reduceEqDiff, ↓reduceIte] <;> rfl) (by simp only [cellsL, agg, List.toList_toArray, Row.cells, Cm.L, Rq.L, Tp.L, Bat.L, Vt.L] <;> rfl) (by rfl) (by first | rfl | assumption | exact Rs.oneC (by first | assumption | exact SH.rsR H (by (repeat first | exact At.here | apply At.there); done) | exact SH.rsO H (by (repeat first | exact At.here | apply At.there); done) | exact (Rs.nil : Rs Non _ _ _)) | (simp only [List.all_cons, List.all_nil, Bool.and_true, Bool.and_eq_true, Row.cells, Cm.L, Rq.L, Tp.L, Bat.L, Vt.L]; (repeat' constructor) <;> first | rfl | assumption | exact Rs.oneC (by first | assumption | exact SH.rsR H (by (repeat first | exact At.here | apply At.there); done) | exact SH.rsO H (by (repeat first | exact At.here | apply At.there); done) | exact (Rs.nil : Rs Non _ _ _)))) (by (repeat first | exact At.here | apply At.there); done) (by first | (simp; done) | decide | (show _ ≤ _; decide)) ?_
          clear H
          intro w10_6 H
          try dsimp only [replC, List.cons_append, List.nil_append, List.append_nil, agg, cellsL, Value.cells, List.toList_toArray, List.set_cons_zero, List.set_cons_succ, spliceL, List.take_succ_cons, List.take_zero, List.drop_succ_cons, List.drop_zero, List.length_cons, List.length_nil, Nat.reduceAdd, Row.cells, Cm.L, Rq.L, Tp.L, Bat.L, Vt.L] at H
          refine LW.nil ?_
          refine thenE_norm ?_
          refine cut (K := K12) [0, 2, 9] (fun σ => ?_)
          simp only [setL, keepE, upd_get, ev, Nat.reduceEqDiff, ↓reduceIte]
          refine h12 _ _ ?_; clear h12; try clear K12
          refine CW.seq (fun K13 h13 => ?_)
          refine CW.region ?_
          refine r_move rfl ?_
          refine r_nilCheck rfl rfl ?_
          refine r_fieldAddrO rfl Try.underlying117 rfl Try.sizeOf58 (by decide) (show _ = 2 from rfl) rfl ?_
          refine r_load rfl Try.isAgg58 rfl (by first | exact SH.cellB H (by (repeat first | exact At.here | apply At.there); done) (by rfl) | exact SH.cellI H (by (repeat first | exact At.here | apply At.there); done) (by rfl) | assumption) ?_
          refine r_move rfl ?_
          refine r_call rfl Try.call73 (by simp only [List.map_cons, List.map_nil, List.map_toArray, List.toList_toArray, upd_get, ev, Nat.reduceEqDiff, ↓reduceIte] <;> rfl) (placeV_c sl _ (SH.rsO H (i := 1) rfl) (by omega) hup) ?_
          rintro _ w11_5 ⟨rfl, X⟩
          refine ⟨_, rfl, ?_⟩
          replace H := SH.same H X
          clear X
          refine r_move rfl ?_
          refine r_extract rfl (by simp only [upd_get, ev, Nat.reduceEqDiff, ↓reduceIte] <;> rfl) (by simp only [List.getElem?_toArray, List.getElem?_cons_zero, List.getElem?_cons_succ] <;> rfl) ?_
          refine r_extract rfl (by simp only [upd_get, ev, Nat.reduceEqDiff, ↓reduceIte] <;> rfl) (by simp only [List.getElem?_toArray, List.getElem?_cons_zero, List.getElem?_cons_succ] <;> rfl) ?_
          refine r_assign rfl ?_
          refine r_assign rfl ?_
          refine LW.nil ?_
          refine thenE_norm ?_
          refine cut (K := K13) [0, 9, 10, 11] (fun σ => ?_)
          simp only [setL, keepE, upd_get, ev, Nat.reduceEqDiff, ↓reduceIte]
          refine h13 _ _ ?_; clear h13; try clear K13
          refine CW.seq (fun K14 h14 => ?_)
          refine CW.seq (fun K15 h15 => ?_)
          rcases findK_place (n := sl) hup with ⟨hin, y, hs, hc, hf⟩ | ⟨hin, hf, hno⟩
          · rw [hin]
            have hsl := lt_of_get hs
            refine CW.region ?_
            refine r_move rfl ?_
            refine LW.nil ?_
            refine thenE_norm (h15 _ _ ?_); clear h15; try clear K15
            refine CW.condT rfl (by first | rfl | (simp only [decide_eq_true_eq, decide_eq_false_iff_not, Bool.and_eq_true, Bool.or_eq_true, Bool.and_eq_false_iff, Bool.or_eq_false_iff, Bool.not_eq_true', Bool.not_eq_false', beq_iff_eq, bne_iff_ne]; omega) | simp_all) ?_
            refine CW.drawP [0, 1, 6] [7] H (by dsimp only [pickC, nthC] <;> rfl) (by repeat first | exact List.Sublist.refl _ | exact List.nil_sublist _ | apply List.Sublist.cons_cons | apply List.Sublist.cons) (by kernel_rfl) rfl ?_
            clear H
            intro w13d H
            refine DL.take (i := 0) [0, 1, 2, 3, 6, 7] rfl (by kernel_rfl) (by kernel_rfl) (by kernel_rfl) (by kernel_rfl) rfl rfl (fun u H => x_move ) (SH.sub H (by repeat first | exact List.Sublist.refl _ | exact List.nil_sublist _ | apply List.Sublist.cons_cons | apply List.Sublist.cons)) ?_
            refine DL.take (i := 1) [1, 2, 3, 6, 7] rfl (by kernel_rfl) (by kernel_rfl) (by kernel_rfl) (by kernel_rfl) rfl rfl (fun u H => x_nilCheck rfl) (SH.sub H (by repeat first | exact List.Sublist.refl _ | exact List.nil_sublist _ | apply List.Sublist.cons_cons | apply List.Sublist.cons)) ?_
            refine DL.take (i := 2) [2, 3, 6, 7] rfl (by kernel_rfl) (by kernel_rfl) (by kernel_rfl) (by kernel_rfl) rfl rfl (fun u H => x_fieldAddrO Try.underlying117 rfl Try.sizeOf58 (by decide) (show _ = 2 from rfl) rfl) (SH.sub H (by repeat first | exact List.Sublist.refl _ | exact List.nil_sublist _ | apply List.Sublist.cons_cons | apply List.Sublist.cons)) ?_
            refine DL.take (i := 3) [3, 6, 7] rfl (by kernel_rfl) (by kernel_rfl) (by kernel_rfl) (by kernel_rfl) rfl rfl (fun u H => x_load Try.isAgg58 rfl (by first | exact SH.cellB H (by (repeat first | exact At.here | apply At.there); done) (by rfl) | exact SH.cellI H (by (repeat first | exact At.here | apply At.there); done) (by rfl) | assumption)) (SH.sub H (by repeat first | exact List.Sublist.refl _ | exact List.nil_sublist _ | apply List.Sublist.cons_cons | apply List.Sublist.cons)) ?_
            refine DL.take (i := 4) [4, 6, 7] rfl (by kernel_rfl) (by kernel_rfl) (by kernel_rfl) (by kernel_rfl) rfl rfl (fun u H => x_move ) (SH.sub H (by repeat first | exact List.Sublist.refl _ | exact List.nil_sublist _ | apply List.Sublist.cons_cons | apply List.Sublist.cons)) ?_
            refine DL.take (i := 5) [5, 6, 7] rfl (by kernel_rfl) (by kernel_rfl) (by kernel_rfl) (by kernel_rfl) rfl rfl (fun u H => x_loadA Try.isAgg61 Try.sizeOf61 rfl (by first | exact SH.cells H (by (repeat first | exact At.here | apply At.there); done)) (by rfl)) (SH.sub H (by repeat first | exact List.Sublist.refl _ | exact List.nil_sublist _ | apply List.Sublist.cons_cons | apply List.Sublist.cons)) ?_
            refine DL.take (i := 6) [6, 7] rfl (by kernel_rfl) (by kernel_rfl) (by kernel_rfl) (by kernel_rfl) rfl rfl (fun u H => x_indexAddrV Try.underlying58 (by simp only [upd_get, ev, Nat.reduceEqDiff, ↓reduceIte] <;> rfl) rfl (by first | assumption | exact SH.rsR H (by (repeat first | exact At.here | apply At.there); done) | exact SH.rsO H (by (repeat first | exact At.here | apply At.there); done) | exact (Rs.nil : Rs Non _ _ _)) (by exact Try.sizeOf61) (by omega) (by omega)) (SH.sub H (by repeat first | exact List.Sublist.refl _ | exact List.nil_sublist _ | apply List.Sublist.cons_cons | apply List.Sublist.cons)) ?_
            refine DL.one (i := 7) (by kernel_rfl) rfl rfl ?_
            refine s_storeRA (o := 0) (x1 := (⟨sl, b, ⟨x1, x2, ⟨x3, x4⟩, x5, v10_3⟩⟩ : Vt)) H Try.sizeOf61 rfl (by simp only [upd_get, ev, Nat.reduceEqDiff, ↓reduceIte] <;> rfl) (by simp only [cellsL, agg, List.toList_toArray, Row.cells, Cm.L, Rq.L, Tp.L, Bat.L, Vt.L] <;> rfl) (by rfl) (by first | rfl | assumption | exact Rs.oneC (by first | assumption | exact SH.rsR H (by (repeat first | exact At.here | apply At.there); done) | exact SH.rsO H (by (repeat first | exact At.here | apply At.there); done) | exact (Rs.nil : Rs Non _ _ _)) | (simp only [List.all_cons, List.all_nil, Bool.and_true, Bool.and_eq_true, Row.cells, Cm.L, Rq.L, Tp.L, Bat.L, Vt.L]; (repeat' constructor) <;> first | rfl | assumption | exact Rs.oneC (by first | assumption | exact SH.rsR H (by (repeat first | exact At.here | apply At.there); done) | exact SH.rsO H (by (repeat first | exact At.here | apply At.there); done) | exact (Rs.nil : Rs Non _ _ _)))) (by (repeat first | exact At.here | apply At.there); done) hs (by rfl) (by rfl) (by rfl) (by first | rfl | assumption | exact Rs.oneC (by first | assumption | exact SH.rsR H (by (repeat first | exact At.here | apply At.there); done) | exact SH.rsO H (by (repeat first | exact At.here | apply At.there); done) | exact (Rs.nil : Rs Non _ _ _)) | (simp only [List.all_cons, List.all_nil, Bool.and_true, Bool.and_eq_true, Row.cells, Cm.L, Rq.L, Tp.L, Bat.L, Vt.L]; (repeat' constructor) <;> first | rfl | assumption | exact Rs.oneC (by first | assumption | exact SH.rsR H (by (repeat first | exact At.here | apply At.there); done) | exact SH.rsO H (by (repeat first | exact At.here | apply At.there); done) | exact (Rs.nil : Rs Non _ _ _)))) ?_
            clear H
            intro w13_7 H
            try dsimp only [replC, List.cons_append, List.nil_append, List.append_nil, agg, cellsL, Value.cells, List.toList_toArray, List.set_cons_zero, List.set_cons_succ, spliceL, List.take_succ_cons, List.take_zero, List.drop_succ_cons, List.drop_zero, List.length_cons, List.length_nil, Nat.reduceAdd, Row.cells, Cm.L, Rq.L, Tp.L, Bat.L, Vt.L] at H
            refine LW.nil (thenE_norm ⟨fun h => Bool.noConfusion (show true = false from h), ?_⟩)
            refine DL.done (by kernel_rfl) ?_
            refine thenE_norm ?_
            refine cut (K := K14) [] (fun σ => ?_)
            simp only [setL, keepE, upd_get, ev, Nat.reduceEqDiff, ↓reduceIte]
            refine h14 _ _ ?_; clear h14; try clear K14
            refine CW.seq (fun K16 h16 => ?_)
            refine CW.region ?_
            refine r_assign rfl ?_
            refine LW.nil ?_
            refine thenE_norm (h16 _ _ ?_); clear h16; try clear K16
            refine CW.ret (ret1 Try.results29 (by simp only [upd_get, ev, Nat.reduceEqDiff, ↓reduceIte]; rfl) ?_)
            have hput : raws.set (atK Vt.slot raws sl) (⟨sl, b, ⟨x1, x2, ⟨x3, x4⟩, x5, v10_3⟩⟩ : Vt) = putK Vt.slot raws ⟨sl, b, ⟨x1, x2, ⟨x3, x4⟩, x5, v10_3⟩⟩ := (putK_in (m := (⟨sl, b, ⟨x1, x2, ⟨x3, x4⟩, x5, v10_3⟩⟩ : Vt)) hup hs hc).symm
            have H2 := SH.absorb (A' := VtsA _ (raws.set (atK Vt.slot raws sl) ⟨sl, b, ⟨x1, x2, ⟨x3, x4⟩, x5, v10_3⟩⟩) (putK Vm.slot s3 (vmB sl b ⟨x1, x2, ⟨x3, x4⟩, x5, x6⟩ rs))) (SH.sel H [2, 5, 0, 1] (by decide) rfl) trivial vts_st (fun h k => by
              rw [hput]
              exact all2_put vtr_key (VtsA.mono h fun b hb => .inl hb) ⟨rfl, rfl, rfl, rfl, rfl, rfl, (Ow.rs k).mono fun b _ hb => .inr hb⟩)
            rw [hacc]
            obtain ⟨FN', K⟩ := AccA.mk hok' (SH.sel H2 [1, 2, 0] (by decide) rfl)
            exact ⟨_, rfl, K⟩
          · rw [hin]
            refine CW.region ?_
            refine r_move rfl ?_
            refine LW.nil ?_
            refine thenE_norm (h15 _ _ ?_); clear h15; try clear K15
            refine CW.condF rfl (by first | rfl | (simp only [decide_eq_true_eq, decide_eq_false_iff_not, Bool.and_eq_true, Bool.or_eq_true, Bool.and_eq_false_iff, Bool.or_eq_false_iff, Bool.not_eq_true', Bool.not_eq_false', beq_iff_eq, bne_iff_ne]; omega) | simp_all) ?_
            refine CW.drawP [0, 6] [11] H (by dsimp only [pickC, nthC] <;> rfl) (by repeat first | exact List.Sublist.refl _ | exact List.nil_sublist _ | apply List.Sublist.cons_cons | apply List.Sublist.cons) (by kernel_rfl) rfl ?_
            clear H
            intro w14d H
            refine DL.take (i := 0) [0, 9, 10, 11] rfl (by kernel_rfl) (by kernel_rfl) (by kernel_rfl) (by kernel_rfl) rfl rfl (fun u H => x_move ) (SH.sub H (by repeat first | exact List.Sublist.refl _ | exact List.nil_sublist _ | apply List.Sublist.cons_cons | apply List.Sublist.cons)) ?_
            refine DL.take (i := 1) [1, 2, 3, 4, 8, 9, 10, 11] rfl (by kernel_rfl) (by kernel_rfl) (by kernel_rfl) (by kernel_rfl) rfl rfl (fun u H => x_move ) (SH.sub H (by repeat first | exact List.Sublist.refl _ | exact List.nil_sublist _ | apply List.Sublist.cons_cons | apply List.Sublist.cons)) ?_
            refine DL.take (i := 2) [2, 3, 4, 8, 9, 10, 11] rfl (by kernel_rfl) (by kernel_rfl) (by kernel_rfl) (by kernel_rfl) rfl rfl (fun u H => x_nilCheck rfl) (SH.sub H (by repeat first | exact List.Sublist.refl _ | exact List.nil_sublist _ | apply List.Sublist.cons_cons | apply List.Sublist.cons)) ?_
            refine DL.take (i := 3) [3, 4, 8, 9, 10, 11] rfl (by kernel_rfl) (by kernel_rfl) (by kernel_rfl) (by kernel_rfl) rfl rfl (fun u H => x_fieldAddrO Try.underlying117 rfl Try.sizeOf58 (by decide) (show _ = 2 from rfl) rfl) (SH.sub H (by repeat first | exact List.Sublist.refl _ | exact List.nil_sublist _ | apply List.Sublist.cons_cons | apply List.Sublist.cons)) ?_
            refine DL.take (i := 4) [4, 8, 9, 10, 11] rfl (by kernel_rfl) (by kernel_rfl) (by kernel_rfl) (by kernel_rfl) rfl rfl (fun u H => x_load Try.isAgg58 rfl (by first | exact SH.cellB H (by (repeat first | exact At.here | apply At.there); done) (by rfl) | exact SH.cellI H (by (repeat first | exact At.here | apply At.there); done) (by rfl) | assumption)) (SH.sub H (by repeat first | exact List.Sublist.refl _ | exact List.nil_sublist _ | apply List.Sublist.cons_cons | apply List.Sublist.cons)) ?_
            refine DL.take (i := 5) [5, 8, 9, 10, 11] rfl (by kernel_rfl) (by kernel_rfl) (by kernel_rfl) (by kernel_rfl) rfl rfl (fun u H => x_move ) (SH.sub H (by repeat first | exact List.Sublist.refl _ | exact List.nil_sublist _ | apply List.Sublist.cons_cons | apply List.Sublist.cons)) ?_
            refine DL.take (i := 6) [6, 7, 8, 9, 10, 11] rfl (by kernel_rfl) (by kernel_rfl) (by kernel_rfl) (by kernel_rfl) rfl rfl (fun u H => x_loadA Try.isAgg61 Try.sizeOf61 rfl (by first | exact SH.cells H (by (repeat first | exact At.here | apply At.there); done)) (by rfl)) (SH.sub H (by repeat first | exact List.Sublist.refl _ | exact List.nil_sublist _ | apply List.Sublist.cons_cons | apply List.Sublist.cons)) ?_
            refine DL.one (i := 7) (by kernel_rfl) rfl rfl ?_
            refine r_buildSliceA (vs := [_]) rfl Try.underlying58 Try.sizeOf61 Try.zeroValue61 rfl rfl rfl rfl (by simp only [List.map_cons, List.map_nil, List.toList_toArray, numbered, Nat.reduceAdd, upd_get, ev, Nat.reduceEqDiff, ↓reduceIte] <;> rfl) rfl (by intro v hv; simp only [List.mem_cons, List.not_mem_nil, or_false] at hv; rcases hv with rfl <;> rfl) ?_
            intro b14_7 w14_7 hb14_7 hs14_7 hE14_7 hB14_7
            replace H := SH.call H (SH.fromB hE14_7 hb14_7 hs14_7 hB14_7)
            clear hb14_7 hs14_7 hE14_7 hB14_7
            try dsimp only [replC, List.cons_append, List.nil_append, List.append_nil, agg, cellsL, Value.cells, List.toList_toArray, List.set_cons_zero, List.set_cons_succ, spliceL, List.take_succ_cons, List.take_zero, List.drop_succ_cons, List.drop_zero, List.length_cons, List.length_nil, Nat.reduceAdd, Row.cells, Cm.L, Rq.L, Tp.L, Bat.L, Vt.L] at H
            replace H := SH.row (b := b14_7) (xs := ([⟨sl, b, ⟨x1, x2, ⟨x3, x4⟩, x5, v10_3⟩⟩] : List Vt)) (n := 1) (cap := 1) H (by (repeat first | exact At.here | apply At.there); done) (by simp only [flat, List.flatMap_cons, List.flatMap_nil, cellsL, agg, List.append_nil, List.cons_append, List.nil_append, List.toList_toArray, Row.cells, Cm.L, Rq.L, Tp.L, Bat.L, Vt.L] <;> rfl) (by intro x hx; first | rfl | (simp at hx; done) | (simp only [List.mem_cons, List.not_mem_nil, or_false] at hx; rcases hx with rfl <;> first | rfl | exact (by first | rfl | assumption | exact Rs.oneC (by first | assumption | exact SH.rsR H (by (repeat first | exact At.here | apply At.there); done) | exact SH.rsO H (by (repeat first | exact At.here | apply At.there); done) | exact (Rs.nil : Rs Non _ _ _)) | (simp only [List.all_cons, List.all_nil, Bool.and_true, Bool.and_eq_true, Row.cells, Cm.L, Rq.L, Tp.L, Bat.L, Vt.L]; (repeat' constructor) <;> first | rfl | assumption | exact Rs.oneC (by first | assumption | exact SH.rsR H (by (repeat first | exact At.here | apply At.there); done) | exact SH.rsO H (by (repeat first | exact At.here | apply At.there); done) | exact (Rs.nil : Rs Non _ _ _)))))) (by rfl) rfl (by decide)
            try dsimp only [replC, List.cons_append, List.nil_append, List.append_nil, agg, cellsL, Value.cells, List.toList_toArray, List.set_cons_zero, List.set_cons_succ, spliceL, List.take_succ_cons, List.take_zero, List.drop_succ_cons, List.drop_zero, List.length_cons, List.length_nil, Nat.reduceAdd, Row.cells, Cm.L, Rq.L, Tp.L, Bat.L, Vt.L] at H
            refine LW.nil (thenE_norm ⟨fun _ => (SH.sub H (by repeat first | exact List.Sublist.refl _ | exact List.nil_sublist _ | apply List.Sublist.cons_cons | apply List.Sublist.cons)), ?_⟩)
            refine DL.one (i := 8) (by kernel_rfl) rfl rfl ?_
            refine r_call rfl Try.call76 (by simp only [List.map_cons, List.map_nil, List.map_toArray, List.toList_toArray, upd_get, ev, Nat.reduceEqDiff, ↓reduceIte] <;> rfl) (InsV_c (y := ⟨sl, b, ⟨x1, x2, ⟨x3, x4⟩, x5, v10_3⟩⟩) (atK Vt.slot raws sl) _ (SH.ow H (i := 1) rfl) (SH.ow H (i := 7) rfl) (fun b h1 h2 => (SH.val H).apart (i := 1) (j := 7) rfl rfl (by decide) (.inl trivial) b h2 h1) hat (by omega)) ?_
            rintro _ w14_8 ⟨v14_8, g14_8, rfl, K⟩
            refine ⟨_, rfl, ?_⟩
            replace H := SH.updO H (i := 1) rfl K
            clear K
            try dsimp only [replC, List.cons_append, List.nil_append, List.append_nil] at H
            refine LW.nil (thenE_norm ⟨fun _ => (SH.sub H (by repeat first | exact List.Sublist.refl _ | exact List.nil_sublist _ | apply List.Sublist.cons_cons | apply List.Sublist.cons)), ?_⟩)
            refine DL.take (i := 9) [9, 10, 11] rfl (by kernel_rfl) (by kernel_rfl) (by kernel_rfl) (by kernel_rfl) rfl rfl (fun u H => x_nilCheck rfl) (SH.sub H (by repeat first | exact List.Sublist.refl _ | exact List.nil_sublist _ | apply List.Sublist.cons_cons | apply List.Sublist.cons)) ?_
            refine DL.take (i := 10) [10, 11] rfl (by kernel_rfl) (by kernel_rfl) (by kernel_rfl) (by kernel_rfl) rfl rfl (fun u H => x_fieldAddrO Try.underlying117 rfl Try.sizeOf58 (by decide) (show _ = 2 from rfl) rfl) (SH.sub H (by repeat first | exact List.Sublist.refl _ | exact List.nil_sublist _ | apply List.Sublist.cons_cons | apply List.Sublist.cons)) ?_
            refine DL.one (i := 11) (by kernel_rfl) rfl rfl ?_
            refine s_store H Try.sizeOf58 rfl (by simp only [upd_get, ev, Nat.reduceEqDiff, ↓reduceIte] <;> rfl) (by first | rfl | assumption | exact Rs.oneC (by first | assumption | exact SH.rsR H (by (repeat first | exact At.here | apply At.there); done) | exact SH.rsO H (by (repeat first | exact At.here | apply At.there); done) | exact (Rs.nil : Rs Non _ _ _)) | (simp only [List.all_cons, List.all_nil, Bool.and_true, Bool.and_eq_true, Row.cells, Cm.L, Rq.L, Tp.L, Bat.L, Vt.L]; (repeat' constructor) <;> first | rfl | assumption | exact Rs.oneC (by first | assumption | exact SH.rsR H (by (repeat first | exact At.here | apply At.there); done) | exact SH.rsO H (by (repeat first | exact At.here | apply At.there); done) | exact (Rs.nil : Rs Non _ _ _)))) (by (repeat first | exact At.here | apply At.there); done) (by first | (simp; done) | decide | omega) ?_
            clear H
            intro w14_11 H
            try dsimp only [replC, List.cons_append, List.nil_append, List.append_nil, agg, cellsL, Value.cells, List.toList_toArray, List.set_cons_zero, List.set_cons_succ, spliceL, List.take_succ_cons, List.take_zero, List.drop_succ_cons, List.drop_zero, List.length_cons, List.length_nil, Nat.reduceAdd, Row.cells, Cm.L, Rq.L, Tp.L, Bat.L, Vt.L] at H
            refine LW.nil (thenE_norm ⟨fun h => Bool.noConfusion (show true = false from h), ?_⟩)
            refine DL.done (by kernel_rfl) ?_
            refine thenE_norm ?_
            refine cut (K := K14) [] (fun σ => ?_)
            simp only [setL, keepE, upd_get, ev, Nat.reduceEqDiff, ↓reduceIte]
            refine h14 _ _ ?_; clear h14; try clear K14
            refine CW.seq (fun K17 h17 => ?_)
            refine CW.region ?_
            refine r_assign rfl ?_
            refine LW.nil ?_
            refine thenE_norm (h17 _ _ ?_); clear h17; try clear K17
            refine CW.ret (ret1 Try.results29 (by simp only [upd_get, ev, Nat.reduceEqDiff, ↓reduceIte]; rfl) ?_)
            have hput : raws.take (atK Vt.slot raws sl) ++ [(⟨sl, b, ⟨x1, x2, ⟨x3, x4⟩, x5, v10_3⟩⟩ : Vt)] ++ raws.drop (atK Vt.slot raws sl) = putK Vt.slot raws ⟨sl, b, ⟨x1, x2, ⟨x3, x4⟩, x5, v10_3⟩⟩ := (putK_out (m := (⟨sl, b, ⟨x1, x2, ⟨x3, x4⟩, x5, v10_3⟩⟩ : Vt)) hup hno).symm
            have H2 := SH.absorb (A' := VtsA _ (raws.take (atK Vt.slot raws sl) ++ [(⟨sl, b, ⟨x1, x2, ⟨x3, x4⟩, x5, v10_3⟩⟩ : Vt)] ++ raws.drop (atK Vt.slot raws sl)) (putK Vm.slot s3 (vmB sl b ⟨x1, x2, ⟨x3, x4⟩, x5, x6⟩ rs))) (SH.sel H [2, 5, 0, 1] (by decide) rfl) trivial vts_st (fun h k => by
              rw [hput]
              exact all2_put vtr_key (VtsA.mono h fun b hb => .inl hb) ⟨rfl, rfl, rfl, rfl, rfl, rfl, (Ow.rs k).mono fun b _ hb => .inr hb⟩)
            rw [hacc]
            obtain ⟨FN', K⟩ := AccA.mk hok' (SH.sel H2 [1, 2, 0] (by decide) rfl)
            exact ⟨_, rfl, K⟩
theorem AcceptZ_c (b sl : Int) (x : Bat) (w : World) (ho : oneC x.reqs = true) : Calls Try.prog 29 #[.pointer none, .int .i64 b, .int .i64 sl, agg x] w fun e w' => e = .returned (.int .i64 6) ∧ Ext0 w w' := by
  have H := SH.start (U := Non) (G := Any) w
  refine calls_of_CW Try.func29 rfl Try.ntmps29 (Nat.le_of_ble_eq_true rfl) ?_
  simp only [argE, argFrom, Nat.reduceAdd]
  refine CW.seq (fun K1 h1 => ?_)
  refine CW.region ?_
  refine s_box H rfl (by simp only [upd_get, ev, Nat.reduceEqDiff, ↓reduceIte] <;> rfl) rfl ?_
  clear H
  intro b0_0 w0_0 H
  try dsimp only [replC, List.cons_append, List.nil_append, List.append_nil, agg, cellsL, Value.cells, List.toList_toArray, List.set_cons_zero, List.set_cons_succ, spliceL, List.take_succ_cons, List.take_zero, List.drop_succ_cons, List.drop_zero, List.length_cons, List.length_nil, Nat.reduceAdd, Row.cells, Cm.L, Rq.L, Tp.L, Bat.L, Vt.L] at H
  refine r_assign rfl ?_
  refine LW.nil ?_
  refine thenE_norm (h1 _ _ ?_); clear h1; try clear K1
  refine CW.seq (fun K2 h2 => ?_)
  refine CW.block ?_
  refine CW.seq (fun K3 h3 => ?_)
  refine CW.region ?_
  refine r_move rfl ?_
  refine r_eqlP rfl Try.underlying53 rfl rfl ?_
  refine r_assign rfl ?_
  refine LW.nil ?_
  refine thenE_norm (h3 _ _ ?_); clear h3; try clear K3
  refine CW.condT rfl (by first | rfl | (simp only [decide_eq_true_eq, decide_eq_false_iff_not, Bool.and_eq_true, Bool.or_eq_true, Bool.and_eq_false_iff, Bool.or_eq_false_iff, Bool.not_eq_true', Bool.not_eq_false', beq_iff_eq, bne_iff_ne]; omega) | simp_all) ?_
  refine CW.seq (fun K4 h4 => ?_)
  refine CW.region ?_
  refine r_assign rfl ?_
  refine LW.nil ?_
  refine thenE_norm (h4 _ _ ?_); clear h4; try clear K4
  refine CW.ret (blockE_ret (thenE_ret (ret1 Try.results29 (by simp only [upd_get, ev, Nat.reduceEqDiff, ↓reduceIte]; rfl) ?_)))
  exact ⟨rfl, H.ext⟩
end Go.Proofs.Ytalieccfdmokmaa
