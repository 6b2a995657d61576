/-
  The walks of layer 8's functions, the document's side: where a lock stands; a copy; a take.
-/
import Derived.Test.YtaggdlbjgjagbaaVLkP
namespace Go.Proofs.Ytaggdlbjgjagbaa
set_option linter.unusedSimpArgs false
set_option linter.unusedVariables false
set_option maxRecDepth 20000
open Go.V Go.RowKit Go.ChangeShapes Go.WideShapes

def LkH (r : Lk) (m : Lm) : Prop := r.name = m.name ∧ r.holder = m.holder ∧ r.token = m.token
/-- The lines, but for one. -/
def LksX (j : Nat) (F : Nat → Prop) (raws : List Lk) (ms : List Lm) (w : World) : Prop := ∀ (i : Nat) (r : Lk) (m : Lm), i ≠ j → raws[i]? = some r → ms[i]? = some m → Rs F w r.line m.line
theorem lksX_st {j : Nat} {F : Nat → Prop} {raws : List Lk} {ms : List Lm} : Ch.St F (LksX j F raws ms) := fun V w w' h e hd i r m hij hr hm => (h i r m hij hr hm).up e hd
theorem LksX.mono {j : Nat} {F K : Nat → Prop} {raws : List Lk} {ms : List Lm} {w : World} (h : LksX j F raws ms w) (hK : ∀ b, F b → K b) : LksX j K raws ms w := fun i r m hij hr hm => (h i r m hij hr hm).mono fun b _ hb => hK b hb
theorem lksX_nil {j : Nat} {F : Nat → Prop} {ms : List Lm} {w : World} : LksX j F [] ms w := fun i r m _ hr _ => by simp at hr
theorem lksX_snoc {j : Nat} {F : Nat → Prop} {raws : List Lk} {ms : List Lm} {w : World} {r : Lk} {m : Lm} (hl : raws.length = ms.length) (h : LksX j F raws ms w) (hr : raws.length ≠ j → Rs F w r.line m.line) : LksX j F (raws ++ [r]) (ms ++ [m]) w := fun i x y hij hx hy => by
  by_cases hi : i < raws.length
  · rw [List.getElem?_append_left hi] at hx
    rw [List.getElem?_append_left (by omega)] at hy
    exact h i x y hij hx hy
  · have hx2 := lt_of_get hx
    rw [List.length_append, List.length_singleton] at hx2
    have e : i = raws.length := by omega
    subst e
    rw [List.getElem?_append_right (Nat.le_refl _), Nat.sub_self] at hx
    rw [hl, List.getElem?_append_right (Nat.le_refl _), Nat.sub_self] at hy
    simp only [List.getElem?_cons_zero, Option.some.injEq] at hx hy
    subst hx hy
    exact hr hij
theorem heads_len {raws : List Lk} {ms : List Lm} (h : All2 LkH raws ms) : raws.length = ms.length := All2.len h
/-- One lock put anew, its line too. -/
theorem lksX_set {j : Nat} {K : Nat → Prop} {raws : List Lk} {ms : List Lm} {w : World} {r : Lk} {m : Lm} (hh : All2 LkH raws ms) (h : LksX j K raws ms w) (he : LkH r m) (hl : Rs K w r.line m.line) : LksA K (raws.set j r) (ms.set j m) w :=
  All2.of (by rw [List.length_set, List.length_set]; exact All2.len hh) fun i a b ha hb => by
    rw [List.getElem?_set] at ha hb
    by_cases hij : j = i
    · rw [if_pos hij] at ha hb
      split at ha
      · cases ha
        split at hb
        · cases hb; exact ⟨he.1, he.2.1, he.2.2, hl⟩
        · cases hb
      · cases ha
    · rw [if_neg hij] at ha hb
      obtain ⟨b', hb', hr⟩ := All2.get hh ha
      rw [hb] at hb'; cases hb'
      exact ⟨hr.1, hr.2.1, hr.2.2, h i a b (fun e => hij e.symm) ha hb⟩
theorem lksX_full {j : Nat} {K : Nat → Prop} {raws : List Lk} {ms : List Lm} {w : World} (hh : All2 LkH raws ms) (h : LksX j K raws ms w) (hl : ∀ r m, raws[j]? = some r → ms[j]? = some m → Rs K w r.line m.line) : LksA K raws ms w :=
  All2.of (All2.len hh) fun i a b ha hb => by
    obtain ⟨b', hb', hr⟩ := All2.get hh ha
    rw [hb] at hb'; cases hb'
    by_cases hij : i = j
    · subst hij; exact ⟨hr.1, hr.2.1, hr.2.2, hl a b ha hb⟩
    · exact ⟨hr.1, hr.2.1, hr.2.2, h i a b hij ha hb⟩
theorem addLx {U G : Nat → Prop} {w0 w : World} {L : List Ch} (j : Nat) (ms : List Lm) (H : SH U G w0 w L) : SH U G w0 w (L ++ [.P Non (LksX j Non [] ms)]) :=
  H.call ⟨Ext.refl _ _, Val.one ⟨lksX_nil, lksX_st, fun b h => h.elim, fun _ b h => h.elim, fun b h => h.elim⟩⟩
/-- Where a lock stands; -1: nowhere. -/
def fiL (l : List Lk) (n : ByteArray) : Int := if inT Lk.name l n = true then (atT Lk.name l n : Int) else -1
theorem fiL_at {l : List Lk} {n : ByteArray} {i : Nat} {r : Lk} (hup : UpT Lk.name l) (hr : l[i]? = some r) (hn : r.name = n) : fiL l n = i := by
  rcases findT_place hup n with ⟨hin, s, hs, hc, -⟩ | ⟨-, -, hno⟩
  · rw [fiL, if_pos hin]
    rcases Nat.lt_trichotomy (atT Lk.name l n) i with h | h | h
    · have := hup.at h hs hr; rw [hc, hn, ltS_irr] at this; cases this
    · rw [h]
    · have := hup.at h hr hs; rw [hc, hn, ltS_irr] at this; cases this
  · exact absurd hn (hno r (List.mem_of_getElem? hr))
theorem fiL_no {l : List Lk} {n : ByteArray} (hup : UpT Lk.name l) (h : ∀ r ∈ l, r.name ≠ n) : fiL l n = -1 := by
  rcases findT_place hup n with ⟨hin, s, hs, hc, -⟩ | ⟨hin, -, -⟩
  · exact absurd hc (h s (List.mem_of_getElem? hs))
  · rw [fiL, hin]; rfl
theorem FindLock_c {F : Nat → Prop} {v : Value} {raws : List Lk} (n : ByteArray) (w : World) (hv : Rs F w v raws) (hup : UpT Lk.name raws) :
    Calls Try.prog 44 #[v, .string n] w fun e w' => e = .returned (.int .i64 (fiL raws n)) ∧ w = w' := by
  have h63 := hv.len63
  have H := SH.start (U := Non) (G := Any) w
  refine calls_of_CW Try.func44 rfl Try.ntmps44 (Nat.le_of_ble_eq_true rfl) ?_
  simp only [argE, argFrom, Nat.reduceAdd]
  refine CW.seq (fun K1 h1 => ?_)
  refine CW.region ?_
  refine r_assign rfl ?_
  refine LW.nil ?_
  refine thenE_norm (h1 _ _ ?_); clear h1; try clear K1
  refine CW.seq (fun K2 h2 => ?_)
  refine CW.seq (fun K3 h3 => ?_)
  refine CW.region ?_
  refine r_assign rfl ?_
  refine LW.nil ?_
  refine thenE_norm (h3 _ _ ?_); clear h3; try clear K3
  refine CW.block ?_
  refine CW.loopR [0, 1] [5] (fun m vs w' => ∃ i : Nat, vs = [.int .i64 i] ∧ i ≤ raws.length ∧ m = raws.length - i ∧ (∀ (j : Nat) (r : Lk), j < i → raws[j]? = some r → r.name ≠ n) ∧ w = w') (raws.length) ?_ ?_
  · exact ⟨0, rfl, by omega, by omega, fun j r hj => by omega, rfl⟩
  try clear H
  rintro n1 vs1 wL1 σ ⟨i, rfl, hi, rfl, hno, rfl⟩
  simp only [setL, keepE, upd_get, ev, Nat.reduceEqDiff, ↓reduceIte]
  refine CW.seq (fun K4 h4 => ?_)
  refine CW.seq (fun K5 h5 => ?_)
  refine CW.region ?_
  refine r_move rfl ?_
  refine r_move rfl ?_
  first
    | refine r_lenV rfl Try.underlying48 (by simp only [upd_get, ev, Nat.reduceEqDiff, ↓reduceIte] <;> rfl) hv ?_
    | refine r_len rfl Try.underlying48 rfl ?_
  refine r_lss rfl rfl rfl ?_
  refine LW.nil ?_
  refine thenE_norm (h5 _ _ ?_); clear h5; try clear K5
  refine CW.cond rfl (fun hc1 => ?_) (fun hc1 => ?_)
  · try simp only [decide_eq_true_eq, decide_eq_false_iff_not, Bool.and_eq_true, Bool.or_eq_true, Bool.and_eq_false_iff, Bool.or_eq_false_iff, Bool.not_eq_true', Bool.not_eq_false', beq_iff_eq, bne_iff_ne, ne_eq, Decidable.not_not] at hc1
    refine CW.skip ?_
    refine thenE_norm (h4 _ _ ?_); clear h4; try clear K4
    refine CW.seq (fun K6 h6 => ?_)
    refine CW.block ?_
    refine CW.seq (fun K7 h7 => ?_)
    obtain ⟨r, hr⟩ := get_of_lt (show i < raws.length by omega)
    refine CW.region ?_
    refine r_move rfl ?_
    refine r_move rfl ?_
    refine r_indexAddrV rfl Try.underlying48 (by simp only [upd_get, ev, Nat.reduceEqDiff, ↓reduceIte] <;> rfl) rfl hv (by exact Try.sizeOf53) (by omega) (by omega) ?_
    refine r_fieldAddrO rfl Try.underlying53 rfl Try.sizeOf9 (by decide) (show _ + 0 = _ from rfl) rfl ?_
    refine r_load rfl Try.isAgg9 rfl (by first | exact Rs.cell (by first | assumption | exact SH.rsR H (by (repeat first | exact At.here | apply At.there); done) | exact SH.rsO H (by (repeat first | exact At.here | apply At.there); done) | exact (Rs.nil : Rs Non _ _ _)) (by assumption) (by rfl) | exact Rs.cell0 (by first | assumption | exact SH.rsR H (by (repeat first | exact At.here | apply At.there); done) | exact SH.rsO H (by (repeat first | exact At.here | apply At.there); done) | exact (Rs.nil : Rs Non _ _ _)) (by assumption) (by rfl) | assumption) ?_
    refine r_move rfl ?_
    refine r_eqlS rfl rfl rfl ?_
    refine LW.nil ?_
    refine thenE_norm ?_
    refine cut (K := K7) [0, 1, 5, 18] (fun σ => ?_)
    simp only [setL, keepE, upd_get, ev, Nat.reduceEqDiff, ↓reduceIte]
    refine h7 _ _ ?_; clear h7; try clear K7
    refine CW.cond rfl (fun hc2 => ?_) (fun hc2 => ?_)
    · try simp only [decide_eq_true_eq, decide_eq_false_iff_not, Bool.and_eq_true, Bool.or_eq_true, Bool.and_eq_false_iff, Bool.or_eq_false_iff, Bool.not_eq_true', Bool.not_eq_false', beq_iff_eq, bne_iff_ne, ne_eq, Decidable.not_not] at hc2
      refine CW.seq (fun K8 h8 => ?_)
      refine CW.region ?_
      refine r_move rfl ?_
      refine r_assign rfl ?_
      refine LW.nil ?_
      refine thenE_norm (h8 _ _ ?_); clear h8; try clear K8
      refine CW.ret (blockE_ret (thenE_ret (thenE_ret (blockE_ret (thenE_ret (ret1 Try.results44 (by simp only [upd_get, ev, Nat.reduceEqDiff, ↓reduceIte]; rfl) ?_))))))
      exact ⟨by rw [fiL_at hup hr hc2], rfl⟩
    · try simp only [decide_eq_true_eq, decide_eq_false_iff_not, Bool.and_eq_true, Bool.or_eq_true, Bool.and_eq_false_iff, Bool.or_eq_false_iff, Bool.not_eq_true', Bool.not_eq_false', beq_iff_eq, bne_iff_ne, ne_eq, Decidable.not_not] at hc2
      refine CW.skip ?_
      refine blockE_norm ?_
      refine thenE_norm (h6 _ _ ?_); clear h6; try clear K6
      refine CW.region ?_
      refine r_move rfl ?_
      refine r_add rfl rfl rfl (wr_i64 (by omega) (by omega)) ?_
      refine r_assign rfl ?_
      refine LW.nil ?_
      refine thenE_norm ⟨rfl, ?_⟩
      exact ⟨raws.length - (i + 1), by omega, i + 1, rfl, by omega, rfl, fun j y hj hy => by
        by_cases hji : j = i
        · subst hji; rw [hr] at hy; cases hy; exact hc2
        · exact hno j y (by omega) hy, rfl⟩
  · try simp only [decide_eq_true_eq, decide_eq_false_iff_not, Bool.and_eq_true, Bool.or_eq_true, Bool.and_eq_false_iff, Bool.or_eq_false_iff, Bool.not_eq_true', Bool.not_eq_false', beq_iff_eq, bne_iff_ne, ne_eq, Decidable.not_not] at hc1
    refine CW.exit (thenE_exit (thenE_exit (blockE_hit ?_)))
    refine thenE_norm (h2 _ _ ?_); clear h2; try clear K2
    refine CW.seq (fun K9 h9 => ?_)
    refine CW.region ?_
    refine r_assign rfl ?_
    refine LW.nil ?_
    refine thenE_norm (h9 _ _ ?_); clear h9; try clear K9
    refine CW.ret (ret1 Try.results44 (by simp only [upd_get, ev, Nat.reduceEqDiff, ↓reduceIte]; rfl) ?_)
    exact ⟨by
      rw [fiL_no hup fun y hy => ?_]
      obtain ⟨j, hj⟩ := List.mem_iff_getElem?.1 hy
      have hjl := lt_of_get hj
      exact hno j y (by omega) hj, rfl⟩
set_option maxHeartbeats 8000000 in
theorem CopyX_c {F K : Nat → Prop} {v : Value} {raws : List Lk} {ms : List Lm} (j : Nat) (w : World) (hv : Rs F w v raws) (hm : LksA K raws ms w) (hn : raws.length ≤ 1000) (hs : shortL ms) :
    Calls Try.prog 34 #[v] w fun e w' => ∃ (v' : Value) (raws' : List Lk) (g : Option Nat) (F' : Nat → Prop) (u : Value) (xs : List Int) (gu : Option Nat), e = .returned v' ∧ SH Non Non w w' [.O 53 v' raws' g, .P F' (LksX j F' raws' ms), .O 3 u xs gu] ∧
      All2 LkH raws' ms ∧ (∀ r m, raws'[j]? = some r → ms[j]? = some m → r.line = u ∧ xs = m.line) := by
  have H := (SH.start w).arg hv
  have l1 := All2.len hm
  refine calls_of_CW Try.func34 rfl Try.ntmps34 (Nat.le_of_ble_eq_true rfl) ?_
  simp only [argE, argFrom, Nat.reduceAdd]
  refine CW.seq (fun K1 h1 => ?_)
  refine CW.region ?_
  refine r_assign rfl ?_
  refine LW.nil ?_
  refine thenE_norm (h1 _ _ ?_); clear h1; try clear K1
  refine CW.seq (fun K2 h2 => ?_)
  refine CW.region ?_
  refine r_assign rfl ?_
  refine LW.nil ?_
  refine thenE_norm (h2 _ _ ?_); clear h2; try clear K2
  refine CW.seq (fun K3 h3 => ?_)
  refine CW.seq (fun K4 h4 => ?_)
  refine CW.region ?_
  refine r_assign rfl ?_
  refine LW.nil ?_
  refine thenE_norm (h4 _ _ ?_); clear h4; try clear K4
  refine CW.block ?_
  refine CW.loopR [0] [3, 4] (fun m vs w' => ∃ (i : Nat) (e : Value) (raws1 : List Lk) (g : Option Nat) (F1 : Nat → Prop) (u : Value) (xs : List Int) (gu : Option Nat), vs = [e, .int .i64 i] ∧ i ≤ raws.length ∧ m = raws.length - i ∧ All2 LkH raws1 (ms.take i) ∧ (∀ r m, raws1[j]? = some r → ms[j]? = some m → r.line = u ∧ xs = m.line) ∧
SH Non Any w w' [.R (Old w) v raws, .O 53 e raws1 g, .P F1 (LksX j F1 raws1 (ms.take i)), .O 3 u xs gu]) (raws.length) ?_ ?_
  · exact ⟨0, .slice none 0 0, [], none, Non, .slice none 0 0, [], none, rfl, by omega, by omega, by rw [List.take_zero]; trivial, fun r m hr => by simp at hr, SH.sel (SH.addO (addLx j (ms.take 0) (H.addO (α := Lk) 53)) (α := Int) 3) [0, 1, 2, 3] (by decide) rfl⟩
  try clear H
  rintro n1 vs1 wL1 σ ⟨i, e, raws1, g, F1, u, xs, gu, rfl, hi, rfl, hhd, hln, H⟩
  simp only [setL, keepE, upd_get, ev, Nat.reduceEqDiff, ↓reduceIte]
  refine CW.seq (fun K5 h5 => ?_)
  refine CW.seq (fun K6 h6 => ?_)
  refine CW.region ?_
  refine r_move rfl ?_
  refine r_move rfl ?_
  first
    | refine r_lenV rfl Try.underlying48 (by simp only [upd_get, ev, Nat.reduceEqDiff, ↓reduceIte] <;> rfl) (by first | assumption | exact SH.rsR H (by (repeat first | exact At.here | apply At.there); done) | exact SH.rsO H (by (repeat first | exact At.here | apply At.there); done) | exact (Rs.nil : Rs Non _ _ _)) ?_
    | refine r_len rfl Try.underlying48 rfl ?_
  refine r_lss rfl rfl rfl ?_
  refine LW.nil ?_
  refine thenE_norm (h6 _ _ ?_); clear h6; try clear K6
  refine CW.cond rfl (fun hc1 => ?_) (fun hc1 => ?_)
  · try simp only [decide_eq_true_eq, decide_eq_false_iff_not, Bool.and_eq_true, Bool.or_eq_true, Bool.and_eq_false_iff, Bool.or_eq_false_iff, Bool.not_eq_true', Bool.not_eq_false', beq_iff_eq, bne_iff_ne, ne_eq, Decidable.not_not] at hc1
    refine CW.skip ?_
    refine thenE_norm (h5 _ _ ?_); clear h5; try clear K5
    refine CW.seq (fun K7 h7 => ?_)
    refine CW.block ?_
    refine CW.seq (fun K8 h8 => ?_)
    obtain ⟨x, hx⟩ := get_of_lt (show i < raws.length by omega)
    obtain ⟨m, hmx, hrx⟩ := All2.get hm hx
    have hml := hs m (List.mem_of_getElem? hmx)
    have hl1 := heads_len hhd
    rw [List.length_take, Nat.min_eq_left (by omega)] at hl1
    obtain ⟨x1, x2, x3, x4⟩ := x
    have hgs : Rs K w x4 m.line := hrx.2.2.2
    have ho4 : oneC x4 = true := Rs.oneC hgs
    refine CW.region ?_
    refine r_move rfl ?_
    refine r_move rfl ?_
    refine r_indexAddrV rfl Try.underlying48 (by simp only [upd_get, ev, Nat.reduceEqDiff, ↓reduceIte] <;> rfl) rfl (by first | assumption | exact SH.rsR H (by (repeat first | exact At.here | apply At.there); done) | exact SH.rsO H (by (repeat first | exact At.here | apply At.there); done) | exact (Rs.nil : Rs Non _ _ _)) (by exact Try.sizeOf53) (by omega) (by omega) ?_
    refine r_loadA rfl Try.isAgg53 Try.sizeOf53 rfl (by first | exact Rs.cells0 (by first | assumption | exact SH.rsR H (by (repeat first | exact At.here | apply At.there); done) | exact SH.rsO H (by (repeat first | exact At.here | apply At.there); done) | exact (Rs.nil : Rs Non _ _ _)) (by assumption)) (by rfl) ?_
    refine s_alloc (cs := [.string (ByteArray.mk #[]), .int .i64 0, .int .i64 0, .slice none 0 0]) H rfl Try.zeroValue53 rfl ?_
    clear H
    intro b5_4 w5_4 H
    try dsimp only [replC, List.cons_append, List.nil_append, List.append_nil, agg, cellsL, Value.cells, List.toList_toArray, List.set_cons_zero, List.set_cons_succ, spliceL, List.take_succ_cons, List.take_zero, List.drop_succ_cons, List.drop_zero, List.length_cons, List.length_nil, Nat.reduceAdd, Row.cells, Gr.L, Lk.L, Act8.L] at H
    refine s_storeA H Try.sizeOf53 rfl (by simp only [upd_get, ev, Nat.reduceEqDiff, ↓reduceIte] <;> rfl) (by simp only [cellsL, agg, List.toList_toArray, Row.cells, Gr.L, Lk.L, Act8.L] <;> rfl) (by rfl) (by first | rfl | assumption | exact Rs.oneC (by first | assumption | exact SH.rsR H (by (repeat first | exact At.here | apply At.there); done) | exact SH.rsO H (by (repeat first | exact At.here | apply At.there); done) | exact (Rs.nil : Rs Non _ _ _)) | (simp only [List.all_cons, List.all_nil, Bool.and_true, Bool.and_eq_true, Row.cells, Gr.L, Lk.L, Act8.L]; (repeat' constructor) <;> first | rfl | assumption | exact Rs.oneC (by first | assumption | exact SH.rsR H (by (repeat first | exact At.here | apply At.there); done) | exact SH.rsO H (by (repeat first | exact At.here | apply At.there); done) | exact (Rs.nil : Rs Non _ _ _)))) (by (repeat first | exact At.here | apply At.there); done) (by first | (simp; done) | decide | (show _ ≤ _; decide)) ?_
    clear H
    intro w5_5 H
    try dsimp only [replC, List.cons_append, List.nil_append, List.append_nil, agg, cellsL, Value.cells, List.toList_toArray, List.set_cons_zero, List.set_cons_succ, spliceL, List.take_succ_cons, List.take_zero, List.drop_succ_cons, List.drop_zero, List.length_cons, List.length_nil, Nat.reduceAdd, Row.cells, Gr.L, Lk.L, Act8.L] at H
    refine LW.nil ?_
    refine thenE_norm ?_
    refine cut (K := K8) [0, 3, 4, 5] (fun σ => ?_)
    simp only [setL, keepE, upd_get, ev, Nat.reduceEqDiff, ↓reduceIte]
    refine h8 _ _ ?_; clear h8; try clear K8
    refine CW.seq (fun K9 h9 => ?_)
    refine CW.region ?_
    refine r_buildSlice rfl Try.underlying22 Try.sizeOf3 Try.zeroValue3 rfl rfl rfl (by simp only [List.map_cons, List.map_nil, List.toList_toArray, List.foldl_cons, List.foldl_nil, List.replicate_succ, List.replicate_zero, List.set_cons_zero, List.set_cons_succ, upd_get, ev, Nat.reduceEqDiff, ↓reduceIte] <;> rfl) ?_
    intro b6_0 w6_0 hb6_0 hs6_0 hE6_0 hB6_0
    replace H := SH.call H (SH.fromB hE6_0 hb6_0 hs6_0 hB6_0)
    clear hb6_0 hs6_0 hE6_0 hB6_0
    try dsimp only [replC, List.cons_append, List.nil_append, List.append_nil, agg, cellsL, Value.cells, List.toList_toArray, List.set_cons_zero, List.set_cons_succ, spliceL, List.take_succ_cons, List.take_zero, List.drop_succ_cons, List.drop_zero, List.length_cons, List.length_nil, Nat.reduceAdd, Row.cells, Gr.L, Lk.L, Act8.L] at H
    replace H := SH.row (b := b6_0) (xs := ([] : List Int)) (n := 0) (cap := 0) H (by (repeat first | exact At.here | apply At.there); done) (by rfl) (by intro x hx; first | rfl | (simp at hx; done) | (simp only [List.mem_cons, List.not_mem_nil, or_false] at hx; rcases hx with rfl <;> first | rfl | exact (by first | rfl | assumption | exact Rs.oneC (by first | assumption | exact SH.rsR H (by (repeat first | exact At.here | apply At.there); done) | exact SH.rsO H (by (repeat first | exact At.here | apply At.there); done) | exact (Rs.nil : Rs Non _ _ _)) | (simp only [List.all_cons, List.all_nil, Bool.and_true, Bool.and_eq_true, Row.cells, Gr.L, Lk.L, Act8.L]; (repeat' constructor) <;> first | rfl | assumption | exact Rs.oneC (by first | assumption | exact SH.rsR H (by (repeat first | exact At.here | apply At.there); done) | exact SH.rsO H (by (repeat first | exact At.here | apply At.there); done) | exact (Rs.nil : Rs Non _ _ _)))))) (by rfl) rfl (by decide)
    try dsimp only [replC, List.cons_append, List.nil_append, List.append_nil, agg, cellsL, Value.cells, List.toList_toArray, List.set_cons_zero, List.set_cons_succ, spliceL, List.take_succ_cons, List.take_zero, List.drop_succ_cons, List.drop_zero, List.length_cons, List.length_nil, Nat.reduceAdd, Row.cells, Gr.L, Lk.L, Act8.L] at H
    refine r_fieldAddrO rfl Try.underlying53 rfl Try.sizeOf22 (by decide) (show _ = 3 from rfl) rfl ?_
    refine r_load rfl Try.isAgg22 rfl (by first | exact SH.cellB H (by (repeat first | exact At.here | apply At.there); done) (by rfl) | assumption) ?_
    refine s_append H rfl Try.underlying22 Try.underlying22 Try.type3 rfl (by simp only [upd_get, ev, Nat.reduceEqDiff, ↓reduceIte] <;> rfl) (by simp only [upd_get, ev, Nat.reduceEqDiff, ↓reduceIte] <;> rfl) (by (repeat first | exact At.here | apply At.there); done) (hgs.up0 (SH.ext H)) (by rfl) (by rfl) (by first | omega | (simp only [Try.t3, List.length_append, List.length_cons, List.length_nil, List.length_map, maxLen]; omega) | (simp [Try.t3, maxLen]; omega)) (by first | omega | (simp only [Try.t3, List.length_append, List.length_cons, List.length_nil, List.length_map, maxLen]; omega) | (simp [Try.t3, maxLen]; omega)) ?_
    clear H
    intro v6_3 w6_3 g6_3 H hN6_3
    try dsimp only [replC, List.cons_append, List.nil_append, List.append_nil] at H
    refine r_fieldAddrO rfl Try.underlying53 rfl Try.sizeOf22 (by decide) (show _ = 3 from rfl) rfl ?_
    refine s_store H Try.sizeOf22 rfl (by simp only [upd_get, ev, Nat.reduceEqDiff, ↓reduceIte] <;> rfl) (by first | rfl | assumption | exact Rs.oneC (by first | assumption | exact SH.rsR H (by (repeat first | exact At.here | apply At.there); done) | exact SH.rsO H (by (repeat first | exact At.here | apply At.there); done) | exact (Rs.nil : Rs Non _ _ _)) | (simp only [List.all_cons, List.all_nil, Bool.and_true, Bool.and_eq_true, Row.cells, Gr.L, Lk.L, Act8.L]; (repeat' constructor) <;> first | rfl | assumption | exact Rs.oneC (by first | assumption | exact SH.rsR H (by (repeat first | exact At.here | apply At.there); done) | exact SH.rsO H (by (repeat first | exact At.here | apply At.there); done) | exact (Rs.nil : Rs Non _ _ _)))) (by (repeat first | exact At.here | apply At.there); done) (by first | (simp; done) | decide | omega) ?_
    clear H
    intro w6_5 H
    try dsimp only [replC, List.cons_append, List.nil_append, List.append_nil, agg, cellsL, Value.cells, List.toList_toArray, List.set_cons_zero, List.set_cons_succ, spliceL, List.take_succ_cons, List.take_zero, List.drop_succ_cons, List.drop_zero, List.length_cons, List.length_nil, Nat.reduceAdd, Row.cells, Gr.L, Lk.L, Act8.L] at H
    refine LW.nil ?_
    refine thenE_norm (h9 _ _ ?_); clear h9; try clear K9
    refine CW.region ?_
    refine r_move rfl ?_
    refine r_loadA rfl Try.isAgg53 Try.sizeOf53 rfl (by first | exact SH.cells H (by (repeat first | exact At.here | apply At.there); done)) (by rfl) ?_
    refine r_buildSliceA (vs := [_]) rfl Try.underlying48 Try.sizeOf53 Try.zeroValue53 rfl rfl rfl rfl (by simp only [List.map_cons, List.map_nil, List.toList_toArray, numbered, Nat.reduceAdd, upd_get, ev, Nat.reduceEqDiff, ↓reduceIte] <;> rfl) rfl (by intro v hv; simp only [List.mem_cons, List.not_mem_nil, or_false] at hv; rcases hv with rfl <;> rfl) ?_
    intro b7_2 w7_2 hb7_2 hs7_2 hE7_2 hB7_2
    replace H := SH.call H (SH.fromB hE7_2 hb7_2 hs7_2 hB7_2)
    clear hb7_2 hs7_2 hE7_2 hB7_2
    try dsimp only [replC, List.cons_append, List.nil_append, List.append_nil, agg, cellsL, Value.cells, List.toList_toArray, List.set_cons_zero, List.set_cons_succ, spliceL, List.take_succ_cons, List.take_zero, List.drop_succ_cons, List.drop_zero, List.length_cons, List.length_nil, Nat.reduceAdd, Row.cells, Gr.L, Lk.L, Act8.L] at H
    replace H := SH.row (b := b7_2) (xs := ([⟨x1, x2, x3, v6_3⟩] : List Lk)) (n := 1) (cap := 1) H (by (repeat first | exact At.here | apply At.there); done) (by simp only [flat, List.flatMap_cons, List.flatMap_nil, cellsL, agg, List.append_nil, List.cons_append, List.nil_append, List.toList_toArray, Row.cells, Gr.L, Lk.L, Act8.L] <;> rfl) (by intro x hx; first | rfl | (simp at hx; done) | (simp only [List.mem_cons, List.not_mem_nil, or_false] at hx; rcases hx with rfl <;> first | rfl | exact (by first | rfl | assumption | exact Rs.oneC (by first | assumption | exact SH.rsR H (by (repeat first | exact At.here | apply At.there); done) | exact SH.rsO H (by (repeat first | exact At.here | apply At.there); done) | exact (Rs.nil : Rs Non _ _ _)) | (simp only [List.all_cons, List.all_nil, Bool.and_true, Bool.and_eq_true, Row.cells, Gr.L, Lk.L, Act8.L]; (repeat' constructor) <;> first | rfl | assumption | exact Rs.oneC (by first | assumption | exact SH.rsR H (by (repeat first | exact At.here | apply At.there); done) | exact SH.rsO H (by (repeat first | exact At.here | apply At.there); done) | exact (Rs.nil : Rs Non _ _ _)))))) (by rfl) rfl (by decide)
    try dsimp only [replC, List.cons_append, List.nil_append, List.append_nil, agg, cellsL, Value.cells, List.toList_toArray, List.set_cons_zero, List.set_cons_succ, spliceL, List.take_succ_cons, List.take_zero, List.drop_succ_cons, List.drop_zero, List.length_cons, List.length_nil, Nat.reduceAdd, Row.cells, Gr.L, Lk.L, Act8.L] at H
    refine s_append H rfl Try.underlying48 Try.underlying48 Try.type53 rfl (by simp only [upd_get, ev, Nat.reduceEqDiff, ↓reduceIte] <;> rfl) (by simp only [upd_get, ev, Nat.reduceEqDiff, ↓reduceIte] <;> rfl) (by (repeat first | exact At.here | apply At.there); done) (by first | assumption | exact SH.rsR H (by (repeat first | exact At.here | apply At.there); done) | exact SH.rsO H (by (repeat first | exact At.here | apply At.there); done) | exact (Rs.nil : Rs Non _ _ _)) (by rfl) (by rfl) (by first | omega | (simp only [Try.t53, List.length_append, List.length_cons, List.length_nil, List.length_map, maxLen]; omega) | (simp [Try.t53, maxLen]; omega)) (by first | omega | (simp only [Try.t53, List.length_append, List.length_cons, List.length_nil, List.length_map, maxLen]; omega) | (simp [Try.t53, maxLen]; omega)) ?_
    clear H
    intro v7_3 w7_3 g7_3 H hN7_3
    try dsimp only [replC, List.cons_append, List.nil_append, List.append_nil] at H
    refine r_assign rfl ?_
    refine LW.nil ?_
    refine blockE_norm ?_
    refine thenE_norm (h7 _ _ ?_); clear h7; try clear K7
    refine CW.region ?_
    refine r_move rfl ?_
    refine r_add rfl rfl rfl (wr_i64 (by omega) (by omega)) ?_
    refine r_assign rfl ?_
    refine LW.nil ?_
    refine thenE_norm ⟨rfl, ?_⟩
    have hhd2 : All2 LkH (raws1 ++ [(⟨x1, x2, x3, v6_3⟩ : Lk)]) (ms.take (i + 1)) := by
      rw [V.take_snoc hmx]
      exact All2.snoc hhd ⟨hrx.1, hrx.2.1, hrx.2.2.1⟩
    have htk := V.take_snoc hmx
    have hlt : (ms.take i).length = i := by rw [List.length_take]; omega
    by_cases hij : i = j
    · subst hij
      have H2 := SH.cast (d := .P F1 (LksX i F1 (raws1 ++ [(⟨x1, x2, x3, v6_3⟩ : Lk)]) (ms.take (i + 1)))) H (i := 2) rfl (fun _ => trivial) (fun b hb => hb) lksX_st (fun h => by
        rw [htk]
        exact lksX_snoc (by rw [hlt, hl1]) h (fun q => absurd hl1 q))
      refine ⟨raws.length - (i + 1), by omega, i + 1, v7_3, _, g7_3, F1, v6_3, m.line, g6_3, rfl, by omega, rfl, hhd2, fun r m2 hr hm2 => ?_, SH.sel H2 [0, 1, 2, 5] (by decide) rfl⟩
      rw [← hl1, List.getElem?_append_right (Nat.le_refl _), Nat.sub_self] at hr
      simp only [List.getElem?_cons_zero, Option.some.injEq] at hr
      subst hr
      rw [hmx] at hm2
      cases hm2
      exact ⟨rfl, rfl⟩
    · have H2 := SH.absorb (A' := LksX j _ (raws1 ++ [(⟨x1, x2, x3, v6_3⟩ : Lk)]) (ms.take (i + 1))) (SH.sel H [2, 5, 0, 1, 3] (by decide) rfl) trivial lksX_st (fun h k => by
        rw [htk]
        exact lksX_snoc (by rw [hlt, hl1]) (LksX.mono h fun b hb => .inl hb) (fun _ => (Ow.rs k).mono fun b _ hb => .inr hb))
      refine ⟨raws.length - (i + 1), by omega, i + 1, v7_3, _, g7_3, _, u, xs, gu, rfl, by omega, rfl, hhd2, fun r m2 hr hm2 => ?_, SH.sel H2 [1, 2, 0, 3] (by decide) rfl⟩
      by_cases hj : j < raws1.length
      · rw [List.getElem?_append_left hj] at hr
        exact hln r m2 hr hm2
      · have h9 := lt_of_get hr
        rw [List.length_append, List.length_singleton] at h9
        exact absurd (show i = j by omega) hij
  · try simp only [decide_eq_true_eq, decide_eq_false_iff_not, Bool.and_eq_true, Bool.or_eq_true, Bool.and_eq_false_iff, Bool.or_eq_false_iff, Bool.not_eq_true', Bool.not_eq_false', beq_iff_eq, bne_iff_ne, ne_eq, Decidable.not_not] at hc1
    refine CW.exit (thenE_exit (thenE_exit (blockE_hit ?_)))
    refine thenE_norm (h3 _ _ ?_); clear h3; try clear K3
    refine CW.seq (fun K10 h10 => ?_)
    refine CW.region ?_
    refine r_move rfl ?_
    refine r_assign rfl ?_
    refine LW.nil ?_
    refine thenE_norm (h10 _ _ ?_); clear h10; try clear K10
    refine CW.ret (ret1 Try.results34 (by simp only [upd_get, ev, Nat.reduceEqDiff, ↓reduceIte]; rfl) ?_)
    obtain rfl : i = raws.length := by omega
    rw [List.take_of_length_le (by omega)] at H hhd
    exact ⟨_, _, _, _, _, _, _, rfl, SH.give H (by repeat first | exact List.Sublist.refl _ | exact List.nil_sublist _ | apply List.Sublist.cons_cons | apply List.Sublist.cons) ⟨trivial, trivial, trivial, trivial⟩, hhd, hln⟩
theorem head_key : ∀ a b, LkH a b → Lk.name a = Lm.name b := fun a b h => h.1
theorem Copy_c {F K : Nat → Prop} {v : Value} {raws : List Lk} {ms : List Lm} (w : World) (hv : Rs F w v raws) (hm : LksA K raws ms w) (hn : raws.length ≤ 1000) (hs : shortL ms) :
    Calls Try.prog 34 #[v] w fun e w' => ∃ (v' : Value) (raws' : List Lk) (g : Option Nat) (F' : Nat → Prop), e = .returned v' ∧ SH Non Non w w' [.O 53 v' raws' g, .P F' (LksA F' raws' ms)] := by
  refine (CopyX_c raws.length w hv hm hn hs).mono fun e w' he => ?_
  obtain ⟨v', raws', g, F', u, xs, gu, rfl, H, hh, -⟩ := he
  have l1 := All2.len hm
  have l2 := All2.len hh
  have H2 := SH.cast (d := .P F' (LksA F' raws' ms)) H (i := 1) rfl (fun _ => trivial) (fun b hb => hb) lks_st (fun h => lksX_full hh h fun r m hr _ => by have := lt_of_get hr; omega)
  exact ⟨v', raws', g, F', rfl, SH.sel H2 [0, 1] (by decide) rfl⟩
set_option maxHeartbeats 16000000 in
theorem TakeLock_c {F K : Nat → Prop} {v : Value} {raws : List Lk} {ms : List Lm} (n : ByteArray) (c tok : Int) (wait : Bool) (w : World) (hv : Rs F w v raws) (hm : LksA K raws ms w) (hn : raws.length ≤ 1000) (hs : shortL ms) (hup : UpT Lm.name ms) (hc : 0 ≤ c ∧ c < 8) (t0 : 0 ≤ tok) (t1 : tok ≤ 1000000) :
    Calls Try.prog 40 #[v, .string n, .int .i64 c, .int .i64 tok, .bool wait] w fun e w' => ∃ (v' : Value) (raws' : List Lk) (g : Option Nat) (F' : Nat → Prop), e = .returned (.tuple #[v', .int .i64 (takeM ms n c tok wait).2.1, .int .i64 (takeM ms n c tok wait).2.2]) ∧
      SH Non Non w w' [.O 53 v' raws' g, .P F' (LksA F' raws' (takeM ms n c tok wait).1)] := by
  have H := (SH.start w).arg hv
  have l1 := All2.len hm
  refine calls_of_CW Try.func40 rfl Try.ntmps40 (Nat.le_of_ble_eq_true rfl) ?_
  simp only [argE, argFrom, Nat.reduceAdd]
  refine CW.seq (fun K1 h1 => ?_)
  refine CW.region ?_
  refine r_assign rfl ?_
  refine r_assign rfl ?_
  refine r_assign rfl ?_
  refine LW.nil ?_
  refine thenE_norm (h1 _ _ ?_); clear h1; try clear K1
  refine CW.seq (fun K2 h2 => ?_)
  rcases findT_place hup n with ⟨-, m, hmi, hmn, hmf⟩ | ⟨-, hmf, hno⟩
  · have hml := hs m (List.mem_of_getElem? hmi)
    refine CW.region ?_
    refine r_move rfl ?_
    refine r_call rfl Try.call34 (by simp only [List.map_cons, List.map_nil, List.map_toArray, List.toList_toArray, upd_get, ev, Nat.reduceEqDiff, ↓reduceIte] <;> rfl) (CopyX_c (atT Lm.name ms n) _ (SH.rsR H (i := 0) rfl) (hm.up0 (SH.ext H)) hn hs) ?_
    rintro _ w1_1 ⟨v1_1, raws1_1, g1_1, F1_1, u, xs, gu, rfl, K, hh, hl⟩
    refine ⟨_, rfl, ?_⟩
    replace H := SH.call H K
    clear K
    try dsimp only [replC, List.cons_append, List.nil_append, List.append_nil] at H
    have hup1 : UpT Lk.name raws1_1 := all2_upT head_key hh hup
    have hat : atT Lk.name raws1_1 n = atT Lm.name ms n := all2_lowT head_key n hh
    have l5 := All2.len hh
    generalize hj : atT Lm.name ms n = j at *
    obtain ⟨q, hq, hqr⟩ := All2.get' hh hmi
    have hql := lt_of_get hq
    obtain ⟨hl4, hxs⟩ := hl _ _ hq hmi
    obtain ⟨q1, q2, q3, q4⟩ := q
    obtain ⟨m1, m2, m3, m4⟩ := m
    obtain ⟨d1, d2, d3⟩ := hqr
    dsimp only at d1 d2 d3 hl4 hxs hmn hml
    subst d2 d3 hxs
    replace hmn := hmn.symm
    subst hmn
    replace d1 := d1.symm
    subst d1
    replace hl4 := hl4.symm
    subst hl4
    have hq7 : raws1_1[((j : Nat) : Int).toNat]? = some ⟨n, q2, q3, u⟩ := hq
    have hou : oneC u = true := Rs.oneC (SH.rsO H (i := 3) rfl)
    have hputm : ∀ l : List Int, putT Lm.name ms ⟨n, q2, q3, l⟩ = ms.set j ⟨n, q2, q3, l⟩ := fun l => by
      have h9 := putT_in (k := Lm.name) (m := ⟨n, q2, q3, l⟩) (s := ⟨n, q2, q3, xs⟩) hup (by show ms[atT Lm.name ms n]? = _; rw [hj]; exact hmi) rfl
      rw [h9]; show ms.set (atT Lm.name ms n) _ = _; rw [hj]
    refine r_assign rfl ?_
    refine LW.nil ?_
    refine thenE_norm (h2 _ _ ?_); clear h2; try clear K2
    refine CW.seq (fun K3 h3 => ?_)
    refine CW.region ?_
    refine r_move rfl ?_
    refine r_move rfl ?_
    refine r_call rfl Try.call44 (by simp only [List.map_cons, List.map_nil, List.map_toArray, List.toList_toArray, upd_get, ev, Nat.reduceEqDiff, ↓reduceIte] <;> rfl) (FindLock_c n _ (SH.rsO H (i := 1) rfl) hup1) ?_
    rintro _ w2_2 ⟨rfl, rfl⟩
    refine ⟨_, rfl, ?_⟩
    rw [fiL_at hup1 hq rfl]
    refine r_assign rfl ?_
    refine LW.nil ?_
    refine thenE_norm ?_
    refine cut (K := K3) [1, 2, 3, 4, 13, 14] (fun σ => ?_)
    simp only [setL, keepE, upd_get, ev, Nat.reduceEqDiff, ↓reduceIte]
    refine h3 _ _ ?_; clear h3; try clear K3
    refine CW.seq (fun K4 h4 => ?_)
    refine CW.seq (fun K5 h5 => ?_)
    refine CW.region ?_
    refine r_move rfl ?_
    refine r_lss rfl rfl rfl ?_
    refine LW.nil ?_
    refine thenE_norm (h5 _ _ ?_); clear h5; try clear K5
    refine CW.condF rfl (by first | rfl | (simp only [decide_eq_true_eq, decide_eq_false_iff_not, Bool.and_eq_true, Bool.or_eq_true, Bool.and_eq_false_iff, Bool.or_eq_false_iff, Bool.not_eq_true', Bool.not_eq_false', beq_iff_eq, bne_iff_ne]; omega) | simp_all) ?_
    refine CW.skip ?_
    refine thenE_norm (h4 _ _ ?_); clear h4; try clear K4
    refine CW.seq (fun K6 h6 => ?_)
    refine CW.seq (fun K7 h7 => ?_)
    refine CW.region ?_
    refine r_move rfl ?_
    refine r_move rfl ?_
    refine r_indexAddrV rfl Try.underlying48 (by simp only [upd_get, ev, Nat.reduceEqDiff, ↓reduceIte] <;> rfl) rfl (by first | assumption | exact SH.rsR H (by (repeat first | exact At.here | apply At.there); done) | exact SH.rsO H (by (repeat first | exact At.here | apply At.there); done) | exact (Rs.nil : Rs Non _ _ _)) (by exact Try.sizeOf53) (by omega) (by omega) ?_
    refine r_fieldAddrO rfl Try.underlying53 rfl Try.sizeOf3 (by decide) (show _ + 1 = _ from rfl) rfl ?_
    refine r_load rfl Try.isAgg3 rfl (by first | exact Rs.cell (o := 1) (by first | assumption | exact SH.rsR H (by (repeat first | exact At.here | apply At.there); done) | exact SH.rsO H (by (repeat first | exact At.here | apply At.there); done) | exact (Rs.nil : Rs Non _ _ _)) (by assumption) (by rfl) | exact Rs.cell0 (by first | assumption | exact SH.rsR H (by (repeat first | exact At.here | apply At.there); done) | exact SH.rsO H (by (repeat first | exact At.here | apply At.there); done) | exact (Rs.nil : Rs Non _ _ _)) (by assumption) (by rfl) | assumption) ?_
    refine r_move rfl ?_
    refine r_eql rfl rfl rfl ?_
    refine LW.nil ?_
    refine thenE_norm ?_
    refine cut (K := K7) [2, 4, 13, 14, 79] (fun σ => ?_)
    simp only [setL, keepE, upd_get, ev, Nat.reduceEqDiff, ↓reduceIte]
    refine h7 _ _ ?_; clear h7; try clear K7
    refine CW.cond rfl (fun hc5 => ?_) (fun hc5 => ?_)
    · try simp only [decide_eq_true_eq, decide_eq_false_iff_not, Bool.and_eq_true, Bool.or_eq_true, Bool.and_eq_false_iff, Bool.or_eq_false_iff, Bool.not_eq_true', Bool.not_eq_false', beq_iff_eq, bne_iff_ne, ne_eq, Decidable.not_not] at hc5
      refine CW.seq (fun K8 h8 => ?_)
      refine CW.region ?_
      refine r_assign rfl ?_
      refine r_assign rfl ?_
      refine r_assign rfl ?_
      refine LW.nil ?_
      refine thenE_norm (h8 _ _ ?_); clear h8; try clear K8
      refine CW.ret (thenE_ret (ret3 Try.results40 (by simp only [upd_get, ev, Nat.reduceEqDiff, ↓reduceIte]; rfl) (by simp only [upd_get, ev, Nat.reduceEqDiff, ↓reduceIte]; rfl) (by simp only [upd_get, ev, Nat.reduceEqDiff, ↓reduceIte]; rfl) ?_))
      rw [take_twice hmf hc5]
      exact ⟨_, _, _, _, rfl, SH.give (addLs (SH.sel (H.addO (α := Lk) 53) [4] (by decide) rfl)) (List.Sublist.refl _) ⟨trivial, trivial, trivial⟩⟩
    · try simp only [decide_eq_true_eq, decide_eq_false_iff_not, Bool.and_eq_true, Bool.or_eq_true, Bool.and_eq_false_iff, Bool.or_eq_false_iff, Bool.not_eq_true', Bool.not_eq_false', beq_iff_eq, bne_iff_ne, ne_eq, Decidable.not_not] at hc5
      refine CW.skip ?_
      refine thenE_norm (h6 _ _ ?_); clear h6; try clear K6
      refine CW.seq (fun K9 h9 => ?_)
      refine CW.seq (fun K10 h10 => ?_)
      refine CW.region ?_
      refine r_move rfl ?_
      refine r_not rfl rfl ?_
      refine LW.nil ?_
      refine thenE_norm (h10 _ _ ?_); clear h10; try clear K10
      refine CW.cond rfl (fun hc6 => ?_) (fun hc6 => ?_)
      · try simp only [decide_eq_true_eq, decide_eq_false_iff_not, Bool.and_eq_true, Bool.or_eq_true, Bool.and_eq_false_iff, Bool.or_eq_false_iff, Bool.not_eq_true', Bool.not_eq_false', beq_iff_eq, bne_iff_ne, ne_eq, Decidable.not_not] at hc6
        refine CW.seq (fun K11 h11 => ?_)
        refine CW.region ?_
        refine r_assign rfl ?_
        refine r_assign rfl ?_
        refine r_assign rfl ?_
        refine LW.nil ?_
        refine thenE_norm (h11 _ _ ?_); clear h11; try clear K11
        refine CW.ret (thenE_ret (ret3 Try.results40 (by simp only [upd_get, ev, Nat.reduceEqDiff, ↓reduceIte]; rfl) (by simp only [upd_get, ev, Nat.reduceEqDiff, ↓reduceIte]; rfl) (by simp only [upd_get, ev, Nat.reduceEqDiff, ↓reduceIte]; rfl) ?_))
        rw [take_busy hmf hc5 (by simpa using hc6)]
        exact ⟨_, _, _, _, rfl, SH.give (addLs (SH.sel (H.addO (α := Lk) 53) [4] (by decide) rfl)) (List.Sublist.refl _) ⟨trivial, trivial, trivial⟩⟩
      · try simp only [decide_eq_true_eq, decide_eq_false_iff_not, Bool.and_eq_true, Bool.or_eq_true, Bool.and_eq_false_iff, Bool.or_eq_false_iff, Bool.not_eq_true', Bool.not_eq_false', beq_iff_eq, bne_iff_ne, ne_eq, Decidable.not_not] at hc6
        refine CW.skip ?_
        refine thenE_norm (h9 _ _ ?_); clear h9; try clear K9
        refine CW.seq (fun K12 h12 => ?_)
        have hw : ¬ wait = false := by first | exact hc6 | (rw [hc6]; decide) | simp_all
        refine CW.region ?_
        refine r_move rfl ?_
        refine r_move rfl ?_
        refine r_indexAddrV rfl Try.underlying48 (by simp only [upd_get, ev, Nat.reduceEqDiff, ↓reduceIte] <;> rfl) rfl (by first | assumption | exact SH.rsR H (by (repeat first | exact At.here | apply At.there); done) | exact SH.rsO H (by (repeat first | exact At.here | apply At.there); done) | exact (Rs.nil : Rs Non _ _ _)) (by exact Try.sizeOf53) (by omega) (by omega) ?_
        refine r_fieldAddrO rfl Try.underlying53 rfl Try.sizeOf22 (by decide) (show _ + 3 = _ from rfl) rfl ?_
        refine r_load rfl Try.isAgg22 rfl (by first | exact Rs.cell (o := 3) (by first | assumption | exact SH.rsR H (by (repeat first | exact At.here | apply At.there); done) | exact SH.rsO H (by (repeat first | exact At.here | apply At.there); done) | exact (Rs.nil : Rs Non _ _ _)) (by assumption) (by rfl) | exact Rs.cell0 (by first | assumption | exact SH.rsR H (by (repeat first | exact At.here | apply At.there); done) | exact SH.rsO H (by (repeat first | exact At.here | apply At.there); done) | exact (Rs.nil : Rs Non _ _ _)) (by assumption) (by rfl) | assumption) ?_
        refine r_move rfl ?_
        refine r_call rfl Try.call26 (by simp only [List.map_cons, List.map_nil, List.map_toArray, List.toList_toArray, upd_get, ev, Nat.reduceEqDiff, ↓reduceIte] <;> rfl) (AheadR_c c _ (SH.rsO H (i := 3) rfl)) ?_
        rintro _ _ ⟨rfl, rfl⟩
        refine ⟨_, rfl, ?_⟩
        refine r_move rfl ?_
        refine r_extract rfl (by simp only [upd_get, ev, Nat.reduceEqDiff, ↓reduceIte] <;> rfl) (by simp only [List.getElem?_toArray, List.getElem?_cons_zero, List.getElem?_cons_succ] <;> rfl) ?_
        refine r_extract rfl (by simp only [upd_get, ev, Nat.reduceEqDiff, ↓reduceIte] <;> rfl) (by simp only [List.getElem?_toArray, List.getElem?_cons_zero, List.getElem?_cons_succ] <;> rfl) ?_
        refine r_assign rfl ?_
        refine r_assign rfl ?_
        refine LW.nil ?_
        refine thenE_norm ?_
        refine cut (K := K12) [2, 13, 14, 17, 18] (fun σ => ?_)
        simp only [setL, keepE, upd_get, ev, Nat.reduceEqDiff, ↓reduceIte]
        refine h12 _ _ ?_; clear h12; try clear K12
        refine CW.seq (fun K13 h13 => ?_)
        refine CW.seq (fun K14 h14 => ?_)
        by_cases hin2 : c ∈ xs
        · rw [aheadM, if_pos hin2]
          refine CW.region ?_
          refine r_move rfl ?_
          refine LW.nil ?_
          refine thenE_norm (h14 _ _ ?_); clear h14; try clear K14
          refine CW.condT rfl (by first | rfl | (simp only [decide_eq_true_eq, decide_eq_false_iff_not, Bool.and_eq_true, Bool.or_eq_true, Bool.and_eq_false_iff, Bool.or_eq_false_iff, Bool.not_eq_true', Bool.not_eq_false', beq_iff_eq, bne_iff_ne]; omega) | simp_all) ?_
          refine CW.seq (fun K15 h15 => ?_)
          refine CW.region ?_
          refine r_move rfl ?_
          refine r_move rfl ?_
          refine r_assign rfl ?_
          refine r_assign rfl ?_
          refine r_assign rfl ?_
          refine LW.nil ?_
          refine thenE_norm (h15 _ _ ?_); clear h15; try clear K15
          refine CW.ret (thenE_ret (ret3 Try.results40 (by simp only [upd_get, ev, Nat.reduceEqDiff, ↓reduceIte]; rfl) (by simp only [upd_get, ev, Nat.reduceEqDiff, ↓reduceIte]; rfl) (by simp only [upd_get, ev, Nat.reduceEqDiff, ↓reduceIte]; rfl) ?_))
          rw [take_in hmf hc5 hw hin2]
          have H2 := SH.absorb (A' := LksA _ raws1_1 ms) (SH.sel H [2, 3, 1] (by decide) rfl) trivial lks_st (fun h k => lksX_full hh (LksX.mono h fun b hb => .inl hb) fun r m2 hr hm2 => by
            rw [hmi] at hm2; cases hm2
            rw [hq] at hr; cases hr
            exact (Ow.rs k).mono fun b _ hb => .inr hb)
          exact ⟨_, _, _, _, rfl, SH.give (SH.sel H2 [1, 0] (by decide) rfl) (List.Sublist.refl _) ⟨trivial, trivial, trivial⟩⟩
        · rw [aheadM, if_neg hin2]
          have hjm := joinM_eq hc hin2
          refine CW.region ?_
          refine r_move rfl ?_
          refine LW.nil ?_
          refine thenE_norm (h14 _ _ ?_); clear h14; try clear K14
          refine CW.condF rfl (by first | rfl | (simp only [decide_eq_true_eq, decide_eq_false_iff_not, Bool.and_eq_true, Bool.or_eq_true, Bool.and_eq_false_iff, Bool.or_eq_false_iff, Bool.not_eq_true', Bool.not_eq_false', beq_iff_eq, bne_iff_ne]; omega) | simp_all) ?_
          refine CW.skip ?_
          refine thenE_norm (h13 _ _ ?_); clear h13; try clear K13
          refine CW.seq (fun K16 h16 => ?_)
          refine CW.seq (fun K17 h17 => ?_)
          refine CW.region ?_
          refine r_move rfl ?_
          refine r_move rfl ?_
          refine r_indexAddrV rfl Try.underlying48 (by simp only [upd_get, ev, Nat.reduceEqDiff, ↓reduceIte] <;> rfl) rfl (by first | assumption | exact SH.rsR H (by (repeat first | exact At.here | apply At.there); done) | exact SH.rsO H (by (repeat first | exact At.here | apply At.there); done) | exact (Rs.nil : Rs Non _ _ _)) (by exact Try.sizeOf53) (by omega) (by omega) ?_
          refine r_fieldAddrO rfl Try.underlying53 rfl Try.sizeOf22 (by decide) (show _ + 3 = _ from rfl) rfl ?_
          refine r_load rfl Try.isAgg22 rfl (by first | exact Rs.cell (o := 3) (by first | assumption | exact SH.rsR H (by (repeat first | exact At.here | apply At.there); done) | exact SH.rsO H (by (repeat first | exact At.here | apply At.there); done) | exact (Rs.nil : Rs Non _ _ _)) (by assumption) (by rfl) | exact Rs.cell0 (by first | assumption | exact SH.rsR H (by (repeat first | exact At.here | apply At.there); done) | exact SH.rsO H (by (repeat first | exact At.here | apply At.there); done) | exact (Rs.nil : Rs Non _ _ _)) (by assumption) (by rfl) | assumption) ?_
          first
            | refine r_lenV rfl Try.underlying22 (by simp only [upd_get, ev, Nat.reduceEqDiff, ↓reduceIte] <;> rfl) (SH.rsO H (i := 3) rfl) ?_
            | refine r_len rfl Try.underlying22 rfl ?_
          refine r_geq rfl rfl rfl ?_
          refine LW.nil ?_
          refine thenE_norm ?_
          refine cut (K := K17) [2, 13, 14, 101] (fun σ => ?_)
          simp only [setL, keepE, upd_get, ev, Nat.reduceEqDiff, ↓reduceIte]
          refine h17 _ _ ?_; clear h17; try clear K17
          refine CW.cond rfl (fun hc8 => ?_) (fun hc8 => ?_)
          · try simp only [decide_eq_true_eq, decide_eq_false_iff_not, Bool.and_eq_true, Bool.or_eq_true, Bool.and_eq_false_iff, Bool.or_eq_false_iff, Bool.not_eq_true', Bool.not_eq_false', beq_iff_eq, bne_iff_ne, ne_eq, Decidable.not_not] at hc8
            refine CW.seq (fun K18 h18 => ?_)
            refine CW.region ?_
            refine r_assign rfl ?_
            refine r_assign rfl ?_
            refine r_assign rfl ?_
            refine LW.nil ?_
            refine thenE_norm (h18 _ _ ?_); clear h18; try clear K18
            refine CW.ret (thenE_ret (ret3 Try.results40 (by simp only [upd_get, ev, Nat.reduceEqDiff, ↓reduceIte]; rfl) (by simp only [upd_get, ev, Nat.reduceEqDiff, ↓reduceIte]; rfl) (by simp only [upd_get, ev, Nat.reduceEqDiff, ↓reduceIte]; rfl) ?_))
            have h3 : 3 ≤ xs.length := by first | omega | (simp at hc8; omega)
            rw [if_pos h3] at hjm
            rw [take_not hmf hc5 hw hin2 (by rw [hjm]; decide), hjm]
            exact ⟨_, _, _, _, rfl, SH.give (addLs (SH.sel (H.addO (α := Lk) 53) [4] (by decide) rfl)) (List.Sublist.refl _) ⟨trivial, trivial, trivial⟩⟩
          · try simp only [decide_eq_true_eq, decide_eq_false_iff_not, Bool.and_eq_true, Bool.or_eq_true, Bool.and_eq_false_iff, Bool.or_eq_false_iff, Bool.not_eq_true', Bool.not_eq_false', beq_iff_eq, bne_iff_ne, ne_eq, Decidable.not_not] at hc8
            refine CW.skip ?_
            refine thenE_norm (h16 _ _ ?_); clear h16; try clear K16
            refine CW.seq (fun K19 h19 => ?_)
            refine CW.region ?_
            refine r_move rfl ?_
            refine r_move rfl ?_
            refine r_indexAddrV rfl Try.underlying48 (by simp only [upd_get, ev, Nat.reduceEqDiff, ↓reduceIte] <;> rfl) rfl (by first | assumption | exact SH.rsR H (by (repeat first | exact At.here | apply At.there); done) | exact SH.rsO H (by (repeat first | exact At.here | apply At.there); done) | exact (Rs.nil : Rs Non _ _ _)) (by exact Try.sizeOf53) (by omega) (by omega) ?_
            refine r_fieldAddrO rfl Try.underlying53 rfl Try.sizeOf22 (by decide) (show _ + 3 = _ from rfl) rfl ?_
            refine r_load rfl Try.isAgg22 rfl (by first | exact Rs.cell (o := 3) (by first | assumption | exact SH.rsR H (by (repeat first | exact At.here | apply At.there); done) | exact SH.rsO H (by (repeat first | exact At.here | apply At.there); done) | exact (Rs.nil : Rs Non _ _ _)) (by assumption) (by rfl) | exact Rs.cell0 (by first | assumption | exact SH.rsR H (by (repeat first | exact At.here | apply At.there); done) | exact SH.rsO H (by (repeat first | exact At.here | apply At.there); done) | exact (Rs.nil : Rs Non _ _ _)) (by assumption) (by rfl) | assumption) ?_
            first
              | refine r_lenV rfl Try.underlying22 (by simp only [upd_get, ev, Nat.reduceEqDiff, ↓reduceIte] <;> rfl) (SH.rsO H (i := 3) rfl) ?_
              | refine r_len rfl Try.underlying22 rfl ?_
            refine r_assign rfl ?_
            refine LW.nil ?_
            refine thenE_norm (h19 _ _ ?_); clear h19; try clear K19
            refine CW.seq (fun K20 h20 => ?_)
            refine CW.region ?_
            refine r_move rfl ?_
            refine r_move rfl ?_
            refine r_move rfl ?_
            refine r_move rfl ?_
            refine r_indexAddrV rfl Try.underlying48 (by simp only [upd_get, ev, Nat.reduceEqDiff, ↓reduceIte] <;> rfl) rfl (by first | assumption | exact SH.rsR H (by (repeat first | exact At.here | apply At.there); done) | exact SH.rsO H (by (repeat first | exact At.here | apply At.there); done) | exact (Rs.nil : Rs Non _ _ _)) (by exact Try.sizeOf53) (by omega) (by omega) ?_
            refine r_fieldAddrO rfl Try.underlying53 rfl Try.sizeOf22 (by decide) (show _ + 3 = _ from rfl) rfl ?_
            refine r_load rfl Try.isAgg22 rfl (by first | exact Rs.cell (o := 3) (by first | assumption | exact SH.rsR H (by (repeat first | exact At.here | apply At.there); done) | exact SH.rsO H (by (repeat first | exact At.here | apply At.there); done) | exact (Rs.nil : Rs Non _ _ _)) (by assumption) (by rfl) | exact Rs.cell0 (by first | assumption | exact SH.rsR H (by (repeat first | exact At.here | apply At.there); done) | exact SH.rsO H (by (repeat first | exact At.here | apply At.there); done) | exact (Rs.nil : Rs Non _ _ _)) (by assumption) (by rfl) | assumption) ?_
            refine r_move rfl ?_
            refine r_buildSlice rfl Try.underlying22 Try.sizeOf3 Try.zeroValue3 rfl rfl rfl (by simp only [List.map_cons, List.map_nil, List.toList_toArray, List.foldl_cons, List.foldl_nil, List.replicate_succ, List.replicate_zero, List.set_cons_zero, List.set_cons_succ, upd_get, ev, Nat.reduceEqDiff, ↓reduceIte] <;> rfl) ?_
            intro b26_8 w26_8 hb26_8 hs26_8 hE26_8 hB26_8
            replace H := SH.call H (SH.fromB hE26_8 hb26_8 hs26_8 hB26_8)
            clear hb26_8 hs26_8 hE26_8 hB26_8
            try dsimp only [replC, List.cons_append, List.nil_append, List.append_nil, agg, cellsL, Value.cells, List.toList_toArray, List.set_cons_zero, List.set_cons_succ, spliceL, List.take_succ_cons, List.take_zero, List.drop_succ_cons, List.drop_zero, List.length_cons, List.length_nil, Nat.reduceAdd, Row.cells, Gr.L, Lk.L, Act8.L] at H
            replace H := SH.row (b := b26_8) (xs := ([_] : List Int)) (n := 1) (cap := 1) H (by (repeat first | exact At.here | apply At.there); done) (by rfl) (by intro x hx; first | rfl | (simp at hx; done) | (simp only [List.mem_cons, List.not_mem_nil, or_false] at hx; rcases hx with rfl <;> first | rfl | exact (by first | rfl | assumption | exact Rs.oneC (by first | assumption | exact SH.rsR H (by (repeat first | exact At.here | apply At.there); done) | exact SH.rsO H (by (repeat first | exact At.here | apply At.there); done) | exact (Rs.nil : Rs Non _ _ _)) | (simp only [List.all_cons, List.all_nil, Bool.and_true, Bool.and_eq_true, Row.cells, Gr.L, Lk.L, Act8.L]; (repeat' constructor) <;> first | rfl | assumption | exact Rs.oneC (by first | assumption | exact SH.rsR H (by (repeat first | exact At.here | apply At.there); done) | exact SH.rsO H (by (repeat first | exact At.here | apply At.there); done) | exact (Rs.nil : Rs Non _ _ _)))))) (by rfl) rfl (by decide)
            try dsimp only [replC, List.cons_append, List.nil_append, List.append_nil, agg, cellsL, Value.cells, List.toList_toArray, List.set_cons_zero, List.set_cons_succ, spliceL, List.take_succ_cons, List.take_zero, List.drop_succ_cons, List.drop_zero, List.length_cons, List.length_nil, Nat.reduceAdd, Row.cells, Gr.L, Lk.L, Act8.L] at H
            first
              | refine s_append H rfl Try.underlying22 Try.underlying22 Try.type3 rfl (by simp only [upd_get, ev, Nat.reduceEqDiff, ↓reduceIte] <;> rfl) (by simp only [upd_get, ev, Nat.reduceEqDiff, ↓reduceIte] <;> rfl) (by (repeat first | exact At.here | apply At.there); done) (by first | assumption | exact SH.rsR H (by (repeat first | exact At.here | apply At.there); done) | exact SH.rsO H (by (repeat first | exact At.here | apply At.there); done) | exact (Rs.nil : Rs Non _ _ _)) (by rfl) (by rfl) (by first | omega | (simp only [Try.t3, List.length_append, List.length_cons, List.length_nil, List.length_map, maxLen]; omega) | (simp [Try.t3, maxLen]; omega)) (by first | omega | (simp only [Try.t3, List.length_append, List.length_cons, List.length_nil, List.length_map, maxLen]; omega) | (simp [Try.t3, maxLen]; omega)) ?_
              | refine s_appendNil H rfl Try.underlying22 Try.underlying22 Try.type3 rfl rfl (by simp only [upd_get, ev, Nat.reduceEqDiff, ↓reduceIte] <;> rfl) (by first | assumption | exact SH.rsR H (by (repeat first | exact At.here | apply At.there); done) | exact SH.rsO H (by (repeat first | exact At.here | apply At.there); done) | exact (Rs.nil : Rs Non _ _ _)) (by rfl) (by rfl) (by first | omega | (simp only [Try.t3, List.length_append, List.length_cons, List.length_nil, List.length_map, maxLen]; omega) | (simp [Try.t3, maxLen]; omega)) ?_
            clear H
            intro v26_9 w26_9 g26_9 H hN26_9
            try dsimp only [replC, List.cons_append, List.nil_append, List.append_nil] at H
            refine r_indexAddrV rfl Try.underlying48 (by simp only [upd_get, ev, Nat.reduceEqDiff, ↓reduceIte] <;> rfl) rfl (by first | assumption | exact SH.rsR H (by (repeat first | exact At.here | apply At.there); done) | exact SH.rsO H (by (repeat first | exact At.here | apply At.there); done) | exact (Rs.nil : Rs Non _ _ _)) (by exact Try.sizeOf53) (by omega) (by omega) ?_
            refine r_fieldAddrO rfl Try.underlying53 rfl Try.sizeOf22 (by decide) (show _ + 3 = _ from rfl) rfl ?_
            refine s_storeR (o := 3) (x1 := (⟨n, q2, q3, v26_9⟩ : Lk)) H Try.sizeOf22 rfl (by simp only [upd_get, ev, Nat.reduceEqDiff, ↓reduceIte] <;> rfl) (by first | rfl | assumption | exact Rs.oneC (by first | assumption | exact SH.rsR H (by (repeat first | exact At.here | apply At.there); done) | exact SH.rsO H (by (repeat first | exact At.here | apply At.there); done) | exact (Rs.nil : Rs Non _ _ _)) | (simp only [List.all_cons, List.all_nil, Bool.and_true, Bool.and_eq_true, Row.cells, Gr.L, Lk.L, Act8.L]; (repeat' constructor) <;> first | rfl | assumption | exact Rs.oneC (by first | assumption | exact SH.rsR H (by (repeat first | exact At.here | apply At.there); done) | exact SH.rsO H (by (repeat first | exact At.here | apply At.there); done) | exact (Rs.nil : Rs Non _ _ _)))) (by (repeat first | exact At.here | apply At.there); done) hq7 (by rfl) (by rfl) (by rfl) (by first | rfl | assumption | exact Rs.oneC (by first | assumption | exact SH.rsR H (by (repeat first | exact At.here | apply At.there); done) | exact SH.rsO H (by (repeat first | exact At.here | apply At.there); done) | exact (Rs.nil : Rs Non _ _ _)) | (simp only [List.all_cons, List.all_nil, Bool.and_true, Bool.and_eq_true, Row.cells, Gr.L, Lk.L, Act8.L]; (repeat' constructor) <;> first | rfl | assumption | exact Rs.oneC (by first | assumption | exact SH.rsR H (by (repeat first | exact At.here | apply At.there); done) | exact SH.rsO H (by (repeat first | exact At.here | apply At.there); done) | exact (Rs.nil : Rs Non _ _ _)))) ?_
            clear H
            intro w26_12 H
            try dsimp only [replC, List.cons_append, List.nil_append, List.append_nil, agg, cellsL, Value.cells, List.toList_toArray, List.set_cons_zero, List.set_cons_succ, spliceL, List.take_succ_cons, List.take_zero, List.drop_succ_cons, List.drop_zero, List.length_cons, List.length_nil, Nat.reduceAdd, Row.cells, Gr.L, Lk.L, Act8.L] at H
            refine LW.nil ?_
            refine thenE_norm ?_
            refine cut (K := K20) [13, 17] (fun σ => ?_)
            simp only [setL, keepE, upd_get, ev, Nat.reduceEqDiff, ↓reduceIte]
            refine h20 _ _ ?_; clear h20; try clear K20
            refine CW.seq (fun K21 h21 => ?_)
            refine CW.region ?_
            refine r_move rfl ?_
            refine r_move rfl ?_
            refine r_assign rfl ?_
            refine r_assign rfl ?_
            refine r_assign rfl ?_
            refine LW.nil ?_
            refine thenE_norm (h21 _ _ ?_); clear h21; try clear K21
            refine CW.ret (ret3 Try.results40 (by simp only [upd_get, ev, Nat.reduceEqDiff, ↓reduceIte]; rfl) (by simp only [upd_get, ev, Nat.reduceEqDiff, ↓reduceIte]; rfl) (by simp only [upd_get, ev, Nat.reduceEqDiff, ↓reduceIte]; rfl) ?_)
            have h3 : ¬ 3 ≤ xs.length := by first | omega | (simp at hc8; omega)
            rw [if_neg h3] at hjm
            rw [take_join hmf hc5 hw hin2 (by rw [hjm]; exact fun q => q rfl), hjm]
            have H2 := SH.absorb (A' := LksA _ (raws1_1.set j (⟨n, q2, q3, v26_9⟩ : Lk)) (putT Lm.name ms ⟨n, q2, q3, xs ++ [c]⟩)) (SH.sel H [2, 3, 1] (by decide) rfl) trivial lks_st (fun h k => by
              rw [hputm]
              exact lksX_set hh (LksX.mono h fun b hb => .inl hb) ⟨rfl, rfl, rfl⟩ ((Ow.rs k).mono fun b _ hb => .inr hb))
            exact ⟨_, _, _, _, rfl, SH.give (SH.sel H2 [1, 0] (by decide) rfl) (List.Sublist.refl _) ⟨trivial, trivial, trivial⟩⟩
  · refine CW.region ?_
    refine r_move rfl ?_
    refine r_call rfl Try.call34 (by simp only [List.map_cons, List.map_nil, List.map_toArray, List.toList_toArray, upd_get, ev, Nat.reduceEqDiff, ↓reduceIte] <;> rfl) (Copy_c _ (SH.rsR H (i := 0) rfl) (hm.up0 (SH.ext H)) hn hs) ?_
    rintro _ w1_1 ⟨v1_1, raws1_1, g1_1, F1_1, rfl, K⟩
    refine ⟨_, rfl, ?_⟩
    replace H := SH.call H K
    clear K
    try dsimp only [replC, List.cons_append, List.nil_append, List.append_nil] at H
    have hm1 : LksA F1_1 raws1_1 ms w1_1 := SH.prop H (i := 2) rfl
    have hup1 : UpT Lk.name raws1_1 := all2_upT lkr_key hm1 hup
    have hat : atT Lk.name raws1_1 n = atT Lm.name ms n := all2_lowT lkr_key n hm1
    have l5 := All2.len hm1
    have hno5 : ∀ q ∈ raws1_1, Lk.name q ≠ n := fun q hq e => by
      obtain ⟨j, hj⟩ := List.mem_iff_getElem?.1 hq
      obtain ⟨p, hp, hpr⟩ := All2.get hm1 hj
      exact findT_none hmf p (List.mem_of_getElem? hp) (by rw [← hpr.1]; exact e)
    refine r_assign rfl ?_
    refine LW.nil ?_
    refine thenE_norm (h2 _ _ ?_); clear h2; try clear K2
    refine CW.seq (fun K22 h22 => ?_)
    refine CW.region ?_
    refine r_move rfl ?_
    refine r_move rfl ?_
    refine r_call rfl Try.call44 (by simp only [List.map_cons, List.map_nil, List.map_toArray, List.toList_toArray, upd_get, ev, Nat.reduceEqDiff, ↓reduceIte] <;> rfl) (FindLock_c n _ (SH.rsO H (i := 1) rfl) hup1) ?_
    rintro _ w2_2 ⟨rfl, rfl⟩
    refine ⟨_, rfl, ?_⟩
    rw [fiL_no hup1 hno5]
    refine r_assign rfl ?_
    refine LW.nil ?_
    refine thenE_norm ?_
    refine cut (K := K22) [1, 2, 3, 4, 13, 14] (fun σ => ?_)
    simp only [setL, keepE, upd_get, ev, Nat.reduceEqDiff, ↓reduceIte]
    refine h22 _ _ ?_; clear h22; try clear K22
    refine CW.seq (fun K23 h23 => ?_)
    refine CW.seq (fun K24 h24 => ?_)
    refine CW.region ?_
    refine r_move rfl ?_
    refine r_lss rfl rfl rfl ?_
    refine LW.nil ?_
    refine thenE_norm (h24 _ _ ?_); clear h24; try clear K24
    refine CW.condT rfl (by first | rfl | (simp only [decide_eq_true_eq, decide_eq_false_iff_not, Bool.and_eq_true, Bool.or_eq_true, Bool.and_eq_false_iff, Bool.or_eq_false_iff, Bool.not_eq_true', Bool.not_eq_false', beq_iff_eq, bne_iff_ne]; omega) | simp_all) ?_
    refine CW.seq (fun K25 h25 => ?_)
    refine CW.seq (fun K26 h26 => ?_)
    refine CW.region ?_
    refine r_move rfl ?_
    first
      | refine r_lenV rfl Try.underlying48 (by simp only [upd_get, ev, Nat.reduceEqDiff, ↓reduceIte] <;> rfl) (by first | assumption | exact SH.rsR H (by (repeat first | exact At.here | apply At.there); done) | exact SH.rsO H (by (repeat first | exact At.here | apply At.there); done) | exact (Rs.nil : Rs Non _ _ _)) ?_
      | refine r_len rfl Try.underlying48 rfl ?_
    refine r_geq rfl rfl rfl ?_
    refine LW.nil ?_
    refine thenE_norm (h26 _ _ ?_); clear h26; try clear K26
    refine CW.cond rfl (fun hc2 => ?_) (fun hc2 => ?_)
    · try simp only [decide_eq_true_eq, decide_eq_false_iff_not, Bool.and_eq_true, Bool.or_eq_true, Bool.and_eq_false_iff, Bool.or_eq_false_iff, Bool.not_eq_true', Bool.not_eq_false', beq_iff_eq, bne_iff_ne, ne_eq, Decidable.not_not] at hc2
      refine CW.seq (fun K27 h27 => ?_)
      refine CW.region ?_
      refine r_assign rfl ?_
      refine r_assign rfl ?_
      refine r_assign rfl ?_
      refine LW.nil ?_
      refine thenE_norm ?_
      refine cut (K := K27) [10, 11, 12] (fun σ => ?_)
      simp only [setL, keepE, upd_get, ev, Nat.reduceEqDiff, ↓reduceIte]
      refine h27 _ _ ?_; clear h27; try clear K27
      refine CW.ret (thenE_ret (thenE_ret (ret3 Try.results40 (by simp only [upd_get, ev, Nat.reduceEqDiff, ↓reduceIte]; rfl) (by simp only [upd_get, ev, Nat.reduceEqDiff, ↓reduceIte]; rfl) (by simp only [upd_get, ev, Nat.reduceEqDiff, ↓reduceIte]; rfl) ?_)))
      rw [take_full hmf (by first | omega | (simp at hc2; omega))]
      exact ⟨_, _, _, _, rfl, SH.give (addLs (SH.sel (H.addO (α := Lk) 53) [3] (by decide) rfl)) (List.Sublist.refl _) ⟨trivial, trivial, trivial⟩⟩
    · try simp only [decide_eq_true_eq, decide_eq_false_iff_not, Bool.and_eq_true, Bool.or_eq_true, Bool.and_eq_false_iff, Bool.or_eq_false_iff, Bool.not_eq_true', Bool.not_eq_false', beq_iff_eq, bne_iff_ne, ne_eq, Decidable.not_not] at hc2
      refine CW.skip ?_
      refine thenE_norm (h25 _ _ ?_); clear h25; try clear K25
      refine CW.seq (fun K28 h28 => ?_)
      refine CW.region ?_
      refine r_assign rfl ?_
      refine LW.nil ?_
      refine thenE_norm (h28 _ _ ?_); clear h28; try clear K28
      refine CW.seqJ [1, 2, 3, 13] [15] (fun vs w' => ∃ i : Nat, vs = [.int .i64 i] ∧ i = atT Lm.name ms n ∧ i ≤ raws1_1.length ∧ SH Non Any w w' [.O 53 v1_1 raws1_1 g1_1, .P F1_1 (LksA F1_1 raws1_1 ms)]) ?_ ?_
      · refine CW.block ?_
        refine CW.loopR [1, 2, 3, 13] [15] (fun m vs w' => ∃ i : Nat, vs = [.int .i64 i] ∧ i ≤ raws1_1.length ∧ m = raws1_1.length - i ∧ (∀ (j : Nat) (x : Lk), j < i → raws1_1[j]? = some x → ltS x.name n = true) ∧ SH Non Any w w' [.O 53 v1_1 raws1_1 g1_1, .P F1_1 (LksA F1_1 raws1_1 ms)]) (raws1_1.length) ?_ ?_
        · exact ⟨0, rfl, by omega, by omega, fun j x hj => by omega, SH.sel H [1, 2] (by decide) rfl⟩
        try clear H
        rintro n1 vs1 wL1 σ ⟨i, rfl, hi, rfl, hlo, H⟩
        simp only [setL, keepE, upd_get, ev, Nat.reduceEqDiff, ↓reduceIte]
        refine CW.seq (fun K30 h30 => ?_)
        refine CW.seq (fun K31 h31 => ?_)
        refine CW.region ?_
        refine r_move rfl ?_
        refine r_move rfl ?_
        first
          | refine r_lenV rfl Try.underlying48 (by simp only [upd_get, ev, Nat.reduceEqDiff, ↓reduceIte] <;> rfl) (by first | assumption | exact SH.rsR H (by (repeat first | exact At.here | apply At.there); done) | exact SH.rsO H (by (repeat first | exact At.here | apply At.there); done) | exact (Rs.nil : Rs Non _ _ _)) ?_
          | refine r_len rfl Try.underlying48 rfl ?_
        refine r_lss rfl rfl rfl ?_
        refine r_move rfl ?_
        refine LW.splitB (t := 33) rfl (fun hg7_5 => ?_) (fun hg7_5 => ?_)
        · have hg7_5P := hg7_5
          try simp only [decide_eq_true_eq, decide_eq_false_iff_not, Bool.and_eq_true, Bool.or_eq_true, Bool.and_eq_false_iff, Bool.or_eq_false_iff, Bool.not_eq_true', Bool.not_eq_false', beq_iff_eq, bne_iff_ne] at hg7_5P
          refine LW.want rfl rfl hg7_5 ?_
          refine r_move rfl ?_
          refine LW.want rfl rfl hg7_5 ?_
          refine r_move rfl ?_
          obtain ⟨x, hx⟩ := get_of_lt (show i < raws1_1.length by omega)
          refine LW.want rfl rfl hg7_5 ?_
          refine r_indexAddrV rfl Try.underlying48 (by simp only [upd_get, ev, Nat.reduceEqDiff, ↓reduceIte] <;> rfl) rfl (by first | assumption | exact SH.rsR H (by (repeat first | exact At.here | apply At.there); done) | exact SH.rsO H (by (repeat first | exact At.here | apply At.there); done) | exact (Rs.nil : Rs Non _ _ _)) (by exact Try.sizeOf53) (by omega) (by omega) ?_
          refine LW.want rfl rfl hg7_5 ?_
          refine r_fieldAddrO rfl Try.underlying53 rfl Try.sizeOf9 (by decide) (show _ + 0 = _ from rfl) rfl ?_
          refine LW.want rfl rfl hg7_5 ?_
          refine r_load rfl Try.isAgg9 rfl (by first | exact Rs.cell (by first | assumption | exact SH.rsR H (by (repeat first | exact At.here | apply At.there); done) | exact SH.rsO H (by (repeat first | exact At.here | apply At.there); done) | exact (Rs.nil : Rs Non _ _ _)) (by assumption) (by rfl) | exact Rs.cell0 (by first | assumption | exact SH.rsR H (by (repeat first | exact At.here | apply At.there); done) | exact SH.rsO H (by (repeat first | exact At.here | apply At.there); done) | exact (Rs.nil : Rs Non _ _ _)) (by assumption) (by rfl) | assumption) ?_
          refine LW.want rfl rfl hg7_5 ?_
          refine r_move rfl ?_
          refine LW.want rfl rfl hg7_5 ?_
          refine r_lssL rfl rfl rfl ?_
          refine r_pickT rfl rfl hg7_5 ?_
          refine LW.nil ?_
          refine thenE_norm ?_
          refine cut (K := K31) [1, 2, 3, 13, 15, 41] (fun σ => ?_)
          simp only [setL, keepE, upd_get, ev, Nat.reduceEqDiff, ↓reduceIte]
          refine h31 _ _ ?_; clear h31; try clear K31
          refine CW.cond rfl (fun hc3 => ?_) (fun hc3 => ?_)
          · try simp only [decide_eq_true_eq, decide_eq_false_iff_not, Bool.and_eq_true, Bool.or_eq_true, Bool.and_eq_false_iff, Bool.or_eq_false_iff, Bool.not_eq_true', Bool.not_eq_false', beq_iff_eq, bne_iff_ne, ne_eq, Decidable.not_not] at hc3
            refine CW.skip ?_
            refine thenE_norm (h30 _ _ ?_); clear h30; try clear K30
            refine CW.block ?_
            refine CW.region ?_
            refine r_move rfl ?_
            refine r_add rfl rfl rfl (wr_i64 (by omega) (by omega)) ?_
            refine r_assign rfl ?_
            refine LW.nil ?_
            refine blockE_norm ?_
            refine thenE_norm ⟨rfl, ?_⟩
            exact ⟨raws1_1.length - (i + 1), by omega, i + 1, rfl, by omega, rfl, fun j y hj hy => by
              by_cases hji : j = i
              · subst hji; rw [hx] at hy; cases hy; exact hc3
              · exact hlo j y (by omega) hy, H⟩
          · try simp only [decide_eq_true_eq, decide_eq_false_iff_not, Bool.and_eq_true, Bool.or_eq_true, Bool.and_eq_false_iff, Bool.or_eq_false_iff, Bool.not_eq_true', Bool.not_eq_false', beq_iff_eq, bne_iff_ne, ne_eq, Decidable.not_not] at hc3
            refine CW.exit (thenE_exit (thenE_exit (blockE_hit ?_)))
            refine thenE_norm ?_
            exact ⟨rfl, i, rfl, by rw [← hat]; exact atT_eq hi hlo (fun y hy => by rw [hx] at hy; cases hy; simpa using hc3), hi, H⟩
        · have hg7_5P := hg7_5
          try simp only [decide_eq_true_eq, decide_eq_false_iff_not, Bool.and_eq_true, Bool.or_eq_true, Bool.and_eq_false_iff, Bool.or_eq_false_iff, Bool.not_eq_true', Bool.not_eq_false', beq_iff_eq, bne_iff_ne] at hg7_5P
          refine LW.skip rfl (fun _ e => by cases e; decide) rfl hg7_5 ?_
          refine LW.skip rfl (fun _ e => by cases e; decide) rfl hg7_5 ?_
          refine LW.skip rfl (fun _ e => by cases e; decide) rfl hg7_5 ?_
          refine LW.skip rfl (fun _ e => by cases e; decide) rfl hg7_5 ?_
          refine LW.skip rfl (fun _ e => by cases e; decide) rfl hg7_5 ?_
          refine LW.skip rfl (fun _ e => by cases e; decide) rfl hg7_5 ?_
          refine LW.skip rfl (fun _ e => by cases e; decide) rfl hg7_5 ?_
          refine r_pickF rfl rfl hg7_5 ?_
          refine LW.nil ?_
          refine thenE_norm (h31 _ _ ?_); clear h31; try clear K31
          refine CW.condF rfl (by first | rfl | assumption) ?_
          refine CW.exit (thenE_exit (thenE_exit (blockE_hit ?_)))
          refine thenE_norm ?_
          exact ⟨rfl, i, rfl, by rw [← hat]; exact atT_eq hi hlo (fun x hx => by have := lt_of_get hx; omega), hi, H⟩
      try clear H
      rintro vs wJ σ ⟨i, rfl, hia, hi, H⟩
      simp only [setL, keepE, upd_get, ev, Nat.reduceEqDiff, ↓reduceIte]
      refine CW.seq (fun K32 h32 => ?_)
      refine CW.region ?_
      refine r_move rfl ?_
      refine r_buildQ rfl Try.underlying53 Try.zeroValue53 rfl (pl := [(0, 1), (1, 1), (2, 1), (3, 1)]) (by intro w; simp [go_sem]) (qs := []) (cs := [.string (ByteArray.mk #[]), .int .i64 0, .int .i64 0, .slice none 0 0]) trivial rfl ?_
      refine r_buildSliceA (vs := [_]) rfl Try.underlying48 Try.sizeOf53 Try.zeroValue53 rfl rfl rfl rfl (by simp only [List.map_cons, List.map_nil, List.toList_toArray, numbered, Nat.reduceAdd, upd_get, ev, Nat.reduceEqDiff, ↓reduceIte] <;> rfl) rfl (by intro v hv; simp only [List.mem_cons, List.not_mem_nil, or_false] at hv; rcases hv with rfl <;> rfl) ?_
      intro b9_2 w9_2 hb9_2 hs9_2 hE9_2 hB9_2
      replace H := SH.call H (SH.fromB hE9_2 hb9_2 hs9_2 hB9_2)
      clear hb9_2 hs9_2 hE9_2 hB9_2
      try dsimp only [replC, List.cons_append, List.nil_append, List.append_nil, agg, cellsL, Value.cells, List.toList_toArray, List.set_cons_zero, List.set_cons_succ, spliceL, List.take_succ_cons, List.take_zero, List.drop_succ_cons, List.drop_zero, List.length_cons, List.length_nil, Nat.reduceAdd, Row.cells, Gr.L, Lk.L, Act8.L] at H
      replace H := SH.row (b := b9_2) (xs := ([⟨ByteArray.mk #[], 0, 0, .slice none 0 0⟩] : List Lk)) (n := 1) (cap := 1) H (by (repeat first | exact At.here | apply At.there); done) (by simp only [flat, List.flatMap_cons, List.flatMap_nil, cellsL, agg, List.append_nil, List.cons_append, List.nil_append, List.toList_toArray, Row.cells, Gr.L, Lk.L, Act8.L] <;> rfl) (by intro x hx; first | rfl | (simp at hx; done) | (simp only [List.mem_cons, List.not_mem_nil, or_false] at hx; rcases hx with rfl <;> first | rfl | exact (by first | rfl | assumption | exact Rs.oneC (by first | assumption | exact SH.rsR H (by (repeat first | exact At.here | apply At.there); done) | exact SH.rsO H (by (repeat first | exact At.here | apply At.there); done) | exact (Rs.nil : Rs Non _ _ _)) | (simp only [List.all_cons, List.all_nil, Bool.and_true, Bool.and_eq_true, Row.cells, Gr.L, Lk.L, Act8.L]; (repeat' constructor) <;> first | rfl | assumption | exact Rs.oneC (by first | assumption | exact SH.rsR H (by (repeat first | exact At.here | apply At.there); done) | exact SH.rsO H (by (repeat first | exact At.here | apply At.there); done) | exact (Rs.nil : Rs Non _ _ _)))))) (by rfl) rfl (by decide)
      try dsimp only [replC, List.cons_append, List.nil_append, List.append_nil, agg, cellsL, Value.cells, List.toList_toArray, List.set_cons_zero, List.set_cons_succ, spliceL, List.take_succ_cons, List.take_zero, List.drop_succ_cons, List.drop_zero, List.length_cons, List.length_nil, Nat.reduceAdd, Row.cells, Gr.L, Lk.L, Act8.L] at H
      first
        | refine s_append H rfl Try.underlying48 Try.underlying48 Try.type53 rfl (by simp only [upd_get, ev, Nat.reduceEqDiff, ↓reduceIte] <;> rfl) (by simp only [upd_get, ev, Nat.reduceEqDiff, ↓reduceIte] <;> rfl) (by (repeat first | exact At.here | apply At.there); done) (by first | assumption | exact SH.rsR H (by (repeat first | exact At.here | apply At.there); done) | exact SH.rsO H (by (repeat first | exact At.here | apply At.there); done) | exact (Rs.nil : Rs Non _ _ _)) (by rfl) (by rfl) (by first | omega | (simp only [Try.t53, List.length_append, List.length_cons, List.length_nil, List.length_map, maxLen]; omega) | (simp [Try.t53, maxLen]; omega)) (by first | omega | (simp only [Try.t53, List.length_append, List.length_cons, List.length_nil, List.length_map, maxLen]; omega) | (simp [Try.t53, maxLen]; omega)) ?_
        | refine s_appendNil H rfl Try.underlying48 Try.underlying48 Try.type53 rfl rfl (by simp only [upd_get, ev, Nat.reduceEqDiff, ↓reduceIte] <;> rfl) (by first | assumption | exact SH.rsR H (by (repeat first | exact At.here | apply At.there); done) | exact SH.rsO H (by (repeat first | exact At.here | apply At.there); done) | exact (Rs.nil : Rs Non _ _ _)) (by rfl) (by rfl) (by first | omega | (simp only [Try.t53, List.length_append, List.length_cons, List.length_nil, List.length_map, maxLen]; omega) | (simp [Try.t53, maxLen]; omega)) ?_
      clear H
      intro v9_3 w9_3 g9_3 H hN9_3
      try dsimp only [replC, List.cons_append, List.nil_append, List.append_nil] at H
      refine r_assign rfl ?_
      refine LW.nil ?_
      refine thenE_norm ?_
      refine cut (K := K32) [1, 2, 3, 13, 15] (fun σ => ?_)
      simp only [setL, keepE, upd_get, ev, Nat.reduceEqDiff, ↓reduceIte]
      refine h32 _ _ ?_; clear h32; try clear K32
      refine CW.seq (fun K33 h33 => ?_)
      refine CW.seq (fun K34 h34 => ?_)
      have hl9 : (raws1_1 ++ [(⟨ByteArray.mk #[], 0, 0, .slice none 0 0⟩ : Lk)]).length = raws1_1.length + 1 := by rw [List.length_append, List.length_singleton]
      refine CW.region ?_
      refine r_move rfl ?_
      first
        | refine r_lenV rfl Try.underlying48 (by simp only [upd_get, ev, Nat.reduceEqDiff, ↓reduceIte] <;> rfl) (by first | assumption | exact SH.rsR H (by (repeat first | exact At.here | apply At.there); done) | exact SH.rsO H (by (repeat first | exact At.here | apply At.there); done) | exact (Rs.nil : Rs Non _ _ _)) ?_
        | refine r_len rfl Try.underlying48 rfl ?_
      refine r_sub rfl rfl rfl (wr_i64 (by omega) (by omega)) ?_
      refine r_assign rfl ?_
      refine LW.nil ?_
      refine thenE_norm (h34 _ _ ?_); clear h34; try clear K34
      refine CW.block ?_
      refine CW.loopR [1, 2, 3, 13, 15] [16] (fun m vs w' => ∃ (j : Nat) (y : Lk), vs = [.int .i64 j] ∧ i ≤ j ∧ j ≤ raws1_1.length ∧ m = j - i ∧ oneC y.line = true ∧ SH Non Any w w' [.O 53 v9_3 (raws1_1.take j ++ y :: raws1_1.drop j) g9_3, .P F1_1 (LksA F1_1 raws1_1 ms)]) (raws1_1.length - i) ?_ ?_
      · refine ⟨raws1_1.length, ⟨ByteArray.mk #[], 0, 0, .slice none 0 0⟩, ?_, hi, Nat.le_refl _, by omega, rfl, ?_⟩
        · rw [hl9, show ((raws1_1.length + 1 : Nat) : Int) - 1 = (raws1_1.length : Int) from by omega]; rfl
        · rw [List.take_of_length_le (Nat.le_refl _), List.drop_eq_nil_of_le (Nat.le_refl _)]
          exact SH.sel H [0, 1] (by decide) rfl
      try clear H
      rintro n2 vs2 wL2 σ ⟨j, y, rfl, hij, hj, rfl, hoy, H⟩
      simp only [setL, keepE, upd_get, ev, Nat.reduceEqDiff, ↓reduceIte]
      refine CW.seq (fun K35 h35 => ?_)
      refine CW.seq (fun K36 h36 => ?_)
      refine CW.region ?_
      refine r_move rfl ?_
      refine r_move rfl ?_
      refine r_gtr rfl rfl rfl ?_
      refine LW.nil ?_
      refine thenE_norm (h36 _ _ ?_); clear h36; try clear K36
      refine CW.cond rfl (fun hc4 => ?_) (fun hc4 => ?_)
      · try simp only [decide_eq_true_eq, decide_eq_false_iff_not, Bool.and_eq_true, Bool.or_eq_true, Bool.and_eq_false_iff, Bool.or_eq_false_iff, Bool.not_eq_true', Bool.not_eq_false', beq_iff_eq, bne_iff_ne, ne_eq, Decidable.not_not] at hc4
        refine CW.skip ?_
        refine thenE_norm (h35 _ _ ?_); clear h35; try clear K35
        refine CW.seq (fun K37 h37 => ?_)
        refine CW.block ?_
        have hlen : (raws1_1.take j ++ y :: raws1_1.drop j).length = raws1_1.length + 1 := by rw [List.length_append, List.length_cons, List.length_take, List.length_drop]; omega
        obtain ⟨z, hz⟩ := get_of_lt (show j - 1 < raws1_1.length by omega)
        obtain ⟨hsz, hsset⟩ := shift_set (y := y) (show 0 < j by omega) hz
        have hyj := (place_set (y := y) (n := z) hj).1
        have hoz : oneC z.line = true := by
          obtain ⟨mz, -, hrz⟩ := All2.get hm1 hz
          exact Rs.oneC hrz.2.2.2
        have hsz' : (raws1_1.take j ++ y :: raws1_1.drop j)[((j : Int) - 1).toNat]? = some z := by rw [show ((j : Int) - 1).toNat = j - 1 by omega]; exact hsz
        obtain ⟨z1, z2, z3, z4⟩ := z
        dsimp only at hoz
        refine CW.region ?_
        refine r_move rfl ?_
        refine r_move rfl ?_
        refine r_move rfl ?_
        refine r_move rfl ?_
        refine r_sub rfl rfl rfl (wr_i64 (by omega) (by omega)) ?_
        refine r_indexAddrV rfl Try.underlying48 (by simp only [upd_get, ev, Nat.reduceEqDiff, ↓reduceIte] <;> rfl) rfl (by first | assumption | exact SH.rsR H (by (repeat first | exact At.here | apply At.there); done) | exact SH.rsO H (by (repeat first | exact At.here | apply At.there); done) | exact (Rs.nil : Rs Non _ _ _)) (by exact Try.sizeOf53) (by omega) (by omega) ?_
        refine r_loadA rfl Try.isAgg53 Try.sizeOf53 rfl (by first | exact Rs.cells0 (by first | assumption | exact SH.rsR H (by (repeat first | exact At.here | apply At.there); done) | exact SH.rsO H (by (repeat first | exact At.here | apply At.there); done) | exact (Rs.nil : Rs Non _ _ _)) (by assumption)) (by rfl) ?_
        refine r_indexAddrV rfl Try.underlying48 (by simp only [upd_get, ev, Nat.reduceEqDiff, ↓reduceIte] <;> rfl) rfl (by first | assumption | exact SH.rsR H (by (repeat first | exact At.here | apply At.there); done) | exact SH.rsO H (by (repeat first | exact At.here | apply At.there); done) | exact (Rs.nil : Rs Non _ _ _)) (by exact Try.sizeOf53) (by omega) (by omega) ?_
        refine s_storeRA (o := 0) (x1 := (⟨z1, z2, z3, z4⟩ : Lk)) H Try.sizeOf53 rfl (by simp only [upd_get, ev, Nat.reduceEqDiff, ↓reduceIte] <;> rfl) (by simp only [cellsL, agg, List.toList_toArray, Row.cells, Gr.L, Lk.L, Act8.L] <;> rfl) (by rfl) (by first | rfl | assumption | exact Rs.oneC (by first | assumption | exact SH.rsR H (by (repeat first | exact At.here | apply At.there); done) | exact SH.rsO H (by (repeat first | exact At.here | apply At.there); done) | exact (Rs.nil : Rs Non _ _ _)) | (simp only [List.all_cons, List.all_nil, Bool.and_true, Bool.and_eq_true, Row.cells, Gr.L, Lk.L, Act8.L]; (repeat' constructor) <;> first | rfl | assumption | exact Rs.oneC (by first | assumption | exact SH.rsR H (by (repeat first | exact At.here | apply At.there); done) | exact SH.rsO H (by (repeat first | exact At.here | apply At.there); done) | exact (Rs.nil : Rs Non _ _ _)))) (by (repeat first | exact At.here | apply At.there); done) hyj (by rfl) (by rfl) (by rfl) (by first | rfl | assumption | exact Rs.oneC (by first | assumption | exact SH.rsR H (by (repeat first | exact At.here | apply At.there); done) | exact SH.rsO H (by (repeat first | exact At.here | apply At.there); done) | exact (Rs.nil : Rs Non _ _ _)) | (simp only [List.all_cons, List.all_nil, Bool.and_true, Bool.and_eq_true, Row.cells, Gr.L, Lk.L, Act8.L]; (repeat' constructor) <;> first | rfl | assumption | exact Rs.oneC (by first | assumption | exact SH.rsR H (by (repeat first | exact At.here | apply At.there); done) | exact SH.rsO H (by (repeat first | exact At.here | apply At.there); done) | exact (Rs.nil : Rs Non _ _ _)))) ?_
        clear H
        intro w13_8 H
        try dsimp only [replC, List.cons_append, List.nil_append, List.append_nil, agg, cellsL, Value.cells, List.toList_toArray, List.set_cons_zero, List.set_cons_succ, spliceL, List.take_succ_cons, List.take_zero, List.drop_succ_cons, List.drop_zero, List.length_cons, List.length_nil, Nat.reduceAdd, Row.cells, Gr.L, Lk.L, Act8.L] at H
        refine LW.nil ?_
        refine blockE_norm ?_
        refine thenE_norm (h37 _ _ ?_); clear h37; try clear K37
        refine CW.region ?_
        refine r_move rfl ?_
        refine r_sub rfl rfl rfl (wr_i64 (by omega) (by omega)) ?_
        refine r_assign rfl ?_
        refine LW.nil ?_
        refine thenE_norm ⟨rfl, ?_⟩
        refine ⟨j - 1 - i, by omega, j - 1, ⟨z1, z2, z3, z4⟩, by rw [show ((j : Int) - 1) = ((j - 1 : Nat) : Int) from by omega]; rfl, by omega, by omega, rfl, hoz, ?_⟩
        rw [← hsset]; exact H
      · try simp only [decide_eq_true_eq, decide_eq_false_iff_not, Bool.and_eq_true, Bool.or_eq_true, Bool.and_eq_false_iff, Bool.or_eq_false_iff, Bool.not_eq_true', Bool.not_eq_false', beq_iff_eq, bne_iff_ne, ne_eq, Decidable.not_not] at hc4
        refine CW.exit (thenE_exit (thenE_exit (blockE_hit ?_)))
        refine thenE_norm (h33 _ _ ?_); clear h33; try clear K33
        refine CW.seq (fun K38 h38 => ?_)
        obtain rfl : j = i := by omega
        have hlen : (raws1_1.take j ++ y :: raws1_1.drop j).length = raws1_1.length + 1 := by rw [List.length_append, List.length_cons, List.length_take, List.length_drop]; omega
        obtain ⟨hpj, hps⟩ := place_set (y := y) (n := (⟨n, c, tok + 1, .slice none 0 0⟩ : Lk)) hj
        refine CW.region ?_
        refine r_move rfl ?_
        refine r_move rfl ?_
        refine r_move rfl ?_
        refine r_move rfl ?_
        refine r_move rfl ?_
        refine r_add rfl rfl rfl (wr_i64 (by omega) (by omega)) ?_
        refine r_buildQ rfl Try.underlying53 Try.zeroValue53 rfl (pl := [(0, 1), (1, 1), (2, 1), (3, 1)]) (by intro w; simp [go_sem]) (qs := [(0, [_]), (1, [_]), (2, [_])]) (cs := [_, _, _, .slice none 0 0]) ⟨rfl, cells_one (by simp only [upd_get, ev, Nat.reduceEqDiff, ↓reduceIte] <;> rfl) (by first | rfl | exact Rs.oneC (by first | assumption | exact SH.rsR H (by (repeat first | exact At.here | apply At.there); done) | exact SH.rsO H (by (repeat first | exact At.here | apply At.there); done) | exact (Rs.nil : Rs Non _ _ _))), rfl, cells_one (by simp only [upd_get, ev, Nat.reduceEqDiff, ↓reduceIte] <;> rfl) (by first | rfl | exact Rs.oneC (by first | assumption | exact SH.rsR H (by (repeat first | exact At.here | apply At.there); done) | exact SH.rsO H (by (repeat first | exact At.here | apply At.there); done) | exact (Rs.nil : Rs Non _ _ _))), rfl, cells_one (by simp only [upd_get, ev, Nat.reduceEqDiff, ↓reduceIte] <;> rfl) (by first | rfl | exact Rs.oneC (by first | assumption | exact SH.rsR H (by (repeat first | exact At.here | apply At.there); done) | exact SH.rsO H (by (repeat first | exact At.here | apply At.there); done) | exact (Rs.nil : Rs Non _ _ _))), trivial⟩ rfl ?_
        refine r_indexAddrV rfl Try.underlying48 (by simp only [upd_get, ev, Nat.reduceEqDiff, ↓reduceIte] <;> rfl) rfl (by first | assumption | exact SH.rsR H (by (repeat first | exact At.here | apply At.there); done) | exact SH.rsO H (by (repeat first | exact At.here | apply At.there); done) | exact (Rs.nil : Rs Non _ _ _)) (by exact Try.sizeOf53) (by omega) (by omega) ?_
        refine s_storeRA (o := 0) (x1 := (⟨n, c, tok + 1, .slice none 0 0⟩ : Lk)) H Try.sizeOf53 rfl (by simp only [upd_get, ev, Nat.reduceEqDiff, ↓reduceIte] <;> rfl) (by simp only [cellsL, agg, List.toList_toArray, Row.cells, Gr.L, Lk.L, Act8.L] <;> rfl) (by rfl) (by first | rfl | assumption | exact Rs.oneC (by first | assumption | exact SH.rsR H (by (repeat first | exact At.here | apply At.there); done) | exact SH.rsO H (by (repeat first | exact At.here | apply At.there); done) | exact (Rs.nil : Rs Non _ _ _)) | (simp only [List.all_cons, List.all_nil, Bool.and_true, Bool.and_eq_true, Row.cells, Gr.L, Lk.L, Act8.L]; (repeat' constructor) <;> first | rfl | assumption | exact Rs.oneC (by first | assumption | exact SH.rsR H (by (repeat first | exact At.here | apply At.there); done) | exact SH.rsO H (by (repeat first | exact At.here | apply At.there); done) | exact (Rs.nil : Rs Non _ _ _)))) (by (repeat first | exact At.here | apply At.there); done) hpj (by rfl) (by rfl) (by rfl) (by first | rfl | assumption | exact Rs.oneC (by first | assumption | exact SH.rsR H (by (repeat first | exact At.here | apply At.there); done) | exact SH.rsO H (by (repeat first | exact At.here | apply At.there); done) | exact (Rs.nil : Rs Non _ _ _)) | (simp only [List.all_cons, List.all_nil, Bool.and_true, Bool.and_eq_true, Row.cells, Gr.L, Lk.L, Act8.L]; (repeat' constructor) <;> first | rfl | assumption | exact Rs.oneC (by first | assumption | exact SH.rsR H (by (repeat first | exact At.here | apply At.there); done) | exact SH.rsO H (by (repeat first | exact At.here | apply At.there); done) | exact (Rs.nil : Rs Non _ _ _)))) ?_
        clear H
        intro w14_8 H
        try dsimp only [replC, List.cons_append, List.nil_append, List.append_nil, agg, cellsL, Value.cells, List.toList_toArray, List.set_cons_zero, List.set_cons_succ, spliceL, List.take_succ_cons, List.take_zero, List.drop_succ_cons, List.drop_zero, List.length_cons, List.length_nil, Nat.reduceAdd, Row.cells, Gr.L, Lk.L, Act8.L] at H
        refine LW.nil ?_
        refine thenE_norm ?_
        refine cut (K := K38) [13] (fun σ => ?_)
        simp only [setL, keepE, upd_get, ev, Nat.reduceEqDiff, ↓reduceIte]
        refine h38 _ _ ?_; clear h38; try clear K38
        refine CW.seq (fun K39 h39 => ?_)
        refine CW.region ?_
        refine r_move rfl ?_
        refine r_assign rfl ?_
        refine r_assign rfl ?_
        refine r_assign rfl ?_
        refine LW.nil ?_
        refine thenE_norm (h39 _ _ ?_); clear h39; try clear K39
        refine CW.ret (thenE_ret (ret3 Try.results40 (by simp only [upd_get, ev, Nat.reduceEqDiff, ↓reduceIte]; rfl) (by simp only [upd_get, ev, Nat.reduceEqDiff, ↓reduceIte]; rfl) (by simp only [upd_get, ev, Nat.reduceEqDiff, ↓reduceIte]; rfl) ?_))
        have hput : raws1_1.take j ++ [(⟨n, c, tok + 1, .slice none 0 0⟩ : Lk)] ++ raws1_1.drop j = putT Lk.name raws1_1 ⟨n, c, tok + 1, .slice none 0 0⟩ := by
          rw [hia, ← hat]; exact (putT_out (m := (⟨n, c, tok + 1, .slice none 0 0⟩ : Lk)) hup1 hno5).symm
        have hps' : (raws1_1.take j ++ y :: raws1_1.drop j).set ((j : Nat) : Int).toNat (⟨n, c, tok + 1, .slice none 0 0⟩ : Lk) = raws1_1.take j ++ [(⟨n, c, tok + 1, .slice none 0 0⟩ : Lk)] ++ raws1_1.drop j := hps
        rw [take_new hmf (by first | omega | (simp at hc2; omega))]
        replace H : SH Non Any w w14_8 [.O 53 v9_3 (raws1_1.take j ++ [(⟨n, c, tok + 1, .slice none 0 0⟩ : Lk)] ++ raws1_1.drop j) g9_3, .P F1_1 (LksA F1_1 raws1_1 ms)] := by rw [← hps']; exact H
        have H2 := SH.cast (d := .P F1_1 (LksA F1_1 (raws1_1.take j ++ [(⟨n, c, tok + 1, .slice none 0 0⟩ : Lk)] ++ raws1_1.drop j) (putT Lm.name ms ⟨n, c, tok + 1, []⟩))) H (i := 1) rfl (fun _ => trivial) (fun b hb => hb) lks_st (fun h => by
          rw [hput]; exact all2_putT lkr_key h ⟨rfl, rfl, rfl, Rs.nil⟩)
        exact ⟨_, _, _, _, rfl, SH.give (SH.sel H2 [0, 1] (by decide) rfl) (List.Sublist.refl _) ⟨trivial, trivial, trivial⟩⟩
set_option maxHeartbeats 16000000 in
theorem FreeLock_c {F K : Nat → Prop} {v : Value} {raws : List Lk} {ms : List Lm} (n : ByteArray) (c tok : Int) (w : World) (hv : Rs F w v raws) (hm : LksA K raws ms w) (hn : raws.length ≤ 1000) (hs : shortL ms) (hup : UpT Lm.name ms) (hnd : ∀ m ∈ ms, m.line.Nodup) (t0 : 0 ≤ tok) (t1 : tok ≤ 1000000) :
    Calls Try.prog 41 #[v, .string n, .int .i64 c, .int .i64 tok] w fun e w' => ∃ (v' : Value) (raws' : List Lk) (g : Option Nat) (F' : Nat → Prop), e = .returned (.tuple #[v', .int .i64 (freeM ms n c tok).2.1, .int .i64 (freeM ms n c tok).2.2]) ∧
      SH Non Non w w' [.O 53 v' raws' g, .P F' (LksA F' raws' (freeM ms n c tok).1)] := by
  have H := (SH.start w).arg hv
  have l1 := All2.len hm
  refine calls_of_CW Try.func41 rfl Try.ntmps41 (Nat.le_of_ble_eq_true rfl) ?_
  simp only [argE, argFrom, Nat.reduceAdd]
  refine CW.seq (fun K1 h1 => ?_)
  refine CW.region ?_
  refine r_assign rfl ?_
  refine r_assign rfl ?_
  refine r_assign rfl ?_
  refine LW.nil ?_
  refine thenE_norm (h1 _ _ ?_); clear h1; try clear K1
  refine CW.seq (fun K2 h2 => ?_)
  refine CW.region ?_
  refine r_move rfl ?_
  refine r_call rfl Try.call34 (by simp only [List.map_cons, List.map_nil, List.map_toArray, List.toList_toArray, upd_get, ev, Nat.reduceEqDiff, ↓reduceIte] <;> rfl) (Copy_c _ (SH.rsR H (i := 0) rfl) (hm.up0 (SH.ext H)) hn hs) ?_
  rintro _ w1_1 ⟨v1_1, raws1_1, g1_1, F1_1, rfl, K⟩
  refine ⟨_, rfl, ?_⟩
  replace H := SH.call H K
  clear K
  try dsimp only [replC, List.cons_append, List.nil_append, List.append_nil] at H
  have hm1 : LksA F1_1 raws1_1 ms w1_1 := SH.prop H (i := 2) rfl
  have hup1 : UpT Lk.name raws1_1 := all2_upT lkr_key hm1 hup
  have hat : atT Lk.name raws1_1 n = atT Lm.name ms n := all2_lowT lkr_key n hm1
  have l5 := All2.len hm1
  refine r_assign rfl ?_
  refine LW.nil ?_
  refine thenE_norm (h2 _ _ ?_); clear h2; try clear K2
  refine CW.seq (fun K3 h3 => ?_)
  refine CW.region ?_
  refine r_move rfl ?_
  refine r_move rfl ?_
  refine r_call rfl Try.call44 (by simp only [List.map_cons, List.map_nil, List.map_toArray, List.toList_toArray, upd_get, ev, Nat.reduceEqDiff, ↓reduceIte] <;> rfl) (FindLock_c n _ (SH.rsO H (i := 1) rfl) hup1) ?_
  rintro _ w2_2 ⟨rfl, rfl⟩
  refine ⟨_, rfl, ?_⟩
  refine r_assign rfl ?_
  refine LW.nil ?_
  refine thenE_norm ?_
  refine cut (K := K3) [2, 3, 11, 12] (fun σ => ?_)
  simp only [setL, keepE, upd_get, ev, Nat.reduceEqDiff, ↓reduceIte]
  refine h3 _ _ ?_; clear h3; try clear K3
  refine CW.seq (fun K4 h4 => ?_)
  refine CW.seq (fun K5 h5 => ?_)
  rcases findT_place hup n with ⟨-, m, hmi, hmn, hmf⟩ | ⟨-, hmf, hno⟩
  · have hml := hs m (List.mem_of_getElem? hmi)
    have hmnd := hnd m (List.mem_of_getElem? hmi)
    generalize hj : atT Lm.name ms n = j at *
    obtain ⟨q, hq, hqr⟩ := All2.get' hm1 hmi
    have hql := lt_of_get hq
    obtain ⟨q1, q2, q3, q4⟩ := q
    obtain ⟨m1, m2, m3, m4⟩ := m
    obtain ⟨d1, d2, d3, d4⟩ := hqr
    dsimp only at d1 d2 d3 d4 hmn hml hmnd
    subst d2 d3
    replace hmn := hmn.symm
    subst hmn
    replace d1 := d1.symm
    subst d1
    have hq7 : raws1_1[((j : Nat) : Int).toNat]? = some ⟨n, q2, q3, q4⟩ := hq
    have hou : oneC q4 = true := Rs.oneC d4
    have hputr : ∀ (a b : Int) (l : Value), putT Lk.name raws1_1 ⟨n, a, b, l⟩ = raws1_1.set j ⟨n, a, b, l⟩ := fun a b l => by
      have h9 := putT_in (k := Lk.name) (m := ⟨n, a, b, l⟩) (s := ⟨n, q2, q3, q4⟩) hup1 (by show raws1_1[atT Lk.name raws1_1 n]? = _; rw [hat]; exact hq) rfl
      rw [h9]; show raws1_1.set (atT Lk.name raws1_1 n) _ = _; rw [hat]
    rw [fiL_at hup1 hq rfl]
    refine CW.region ?_
    refine r_move rfl ?_
    refine r_lss rfl rfl rfl ?_
    refine LW.nil ?_
    refine thenE_norm (h5 _ _ ?_); clear h5; try clear K5
    refine CW.condF rfl (by first | rfl | (simp only [decide_eq_true_eq, decide_eq_false_iff_not, Bool.and_eq_true, Bool.or_eq_true, Bool.and_eq_false_iff, Bool.or_eq_false_iff, Bool.not_eq_true', Bool.not_eq_false', beq_iff_eq, bne_iff_ne]; omega) | simp_all) ?_
    refine CW.skip ?_
    refine thenE_norm (h4 _ _ ?_); clear h4; try clear K4
    refine CW.seq (fun K6 h6 => ?_)
    refine CW.seq (fun K7 h7 => ?_)
    refine CW.region ?_
    refine r_move rfl ?_
    refine r_move rfl ?_
    refine r_indexAddrV rfl Try.underlying48 (by simp only [upd_get, ev, Nat.reduceEqDiff, ↓reduceIte] <;> rfl) rfl (by first | assumption | exact SH.rsR H (by (repeat first | exact At.here | apply At.there); done) | exact SH.rsO H (by (repeat first | exact At.here | apply At.there); done) | exact Rs.toH (by first | assumption | exact SH.rsR H (by (repeat first | exact At.here | apply At.there); done) | exact SH.rsO H (by (repeat first | exact At.here | apply At.there); done)) (by omega) | exact Rs.toL (by first | assumption | exact SH.rsR H (by (repeat first | exact At.here | apply At.there); done) | exact SH.rsO H (by (repeat first | exact At.here | apply At.there); done)) (by omega) | exact Rs.toLH (by first | assumption | exact SH.rsR H (by (repeat first | exact At.here | apply At.there); done) | exact SH.rsO H (by (repeat first | exact At.here | apply At.there); done)) (by omega) (by omega) | exact (Rs.nil : Rs Non _ _ _)) (by exact Try.sizeOf53) (by omega) (by omega) ?_
    refine r_fieldAddrO rfl Try.underlying53 rfl Try.sizeOf3 (by decide) (show _ + 1 = _ from rfl) rfl ?_
    refine r_load rfl Try.isAgg3 rfl (by first | exact Rs.cell (o := 1) (by first | assumption | exact SH.rsR H (by (repeat first | exact At.here | apply At.there); done) | exact SH.rsO H (by (repeat first | exact At.here | apply At.there); done) | exact Rs.toH (by first | assumption | exact SH.rsR H (by (repeat first | exact At.here | apply At.there); done) | exact SH.rsO H (by (repeat first | exact At.here | apply At.there); done)) (by omega) | exact Rs.toL (by first | assumption | exact SH.rsR H (by (repeat first | exact At.here | apply At.there); done) | exact SH.rsO H (by (repeat first | exact At.here | apply At.there); done)) (by omega) | exact Rs.toLH (by first | assumption | exact SH.rsR H (by (repeat first | exact At.here | apply At.there); done) | exact SH.rsO H (by (repeat first | exact At.here | apply At.there); done)) (by omega) (by omega) | exact (Rs.nil : Rs Non _ _ _)) (by assumption) (by rfl) | exact Rs.cell0 (by first | assumption | exact SH.rsR H (by (repeat first | exact At.here | apply At.there); done) | exact SH.rsO H (by (repeat first | exact At.here | apply At.there); done) | exact Rs.toH (by first | assumption | exact SH.rsR H (by (repeat first | exact At.here | apply At.there); done) | exact SH.rsO H (by (repeat first | exact At.here | apply At.there); done)) (by omega) | exact Rs.toL (by first | assumption | exact SH.rsR H (by (repeat first | exact At.here | apply At.there); done) | exact SH.rsO H (by (repeat first | exact At.here | apply At.there); done)) (by omega) | exact Rs.toLH (by first | assumption | exact SH.rsR H (by (repeat first | exact At.here | apply At.there); done) | exact SH.rsO H (by (repeat first | exact At.here | apply At.there); done)) (by omega) (by omega) | exact (Rs.nil : Rs Non _ _ _)) (by assumption) (by rfl) | assumption) ?_
    refine r_move rfl ?_
    refine r_neq rfl rfl rfl ?_
    refine LW.nil ?_
    refine thenE_norm ?_
    refine cut (K := K7) [2, 3, 11, 12, 28] (fun σ => ?_)
    simp only [setL, keepE, upd_get, ev, Nat.reduceEqDiff, ↓reduceIte]
    refine h7 _ _ ?_; clear h7; try clear K7
    refine CW.cond rfl (fun hc2 => ?_) (fun hc2 => ?_)
    · try simp only [decide_eq_true_eq, decide_eq_false_iff_not, Bool.and_eq_true, Bool.or_eq_true, Bool.and_eq_false_iff, Bool.or_eq_false_iff, Bool.not_eq_true', Bool.not_eq_false', beq_iff_eq, bne_iff_ne, ne_eq, Decidable.not_not] at hc2
      refine CW.seq (fun K8 h8 => ?_)
      refine CW.region ?_
      refine r_move rfl ?_
      refine r_move rfl ?_
      refine r_indexAddrV rfl Try.underlying48 (by simp only [upd_get, ev, Nat.reduceEqDiff, ↓reduceIte] <;> rfl) rfl (by first | assumption | exact SH.rsR H (by (repeat first | exact At.here | apply At.there); done) | exact SH.rsO H (by (repeat first | exact At.here | apply At.there); done) | exact Rs.toH (by first | assumption | exact SH.rsR H (by (repeat first | exact At.here | apply At.there); done) | exact SH.rsO H (by (repeat first | exact At.here | apply At.there); done)) (by omega) | exact Rs.toL (by first | assumption | exact SH.rsR H (by (repeat first | exact At.here | apply At.there); done) | exact SH.rsO H (by (repeat first | exact At.here | apply At.there); done)) (by omega) | exact Rs.toLH (by first | assumption | exact SH.rsR H (by (repeat first | exact At.here | apply At.there); done) | exact SH.rsO H (by (repeat first | exact At.here | apply At.there); done)) (by omega) (by omega) | exact (Rs.nil : Rs Non _ _ _)) (by exact Try.sizeOf53) (by omega) (by omega) ?_
      refine r_fieldAddrO rfl Try.underlying53 rfl Try.sizeOf22 (by decide) (show _ + 3 = _ from rfl) rfl ?_
      refine r_load rfl Try.isAgg22 rfl (by first | exact Rs.cell (o := 3) (by first | assumption | exact SH.rsR H (by (repeat first | exact At.here | apply At.there); done) | exact SH.rsO H (by (repeat first | exact At.here | apply At.there); done) | exact Rs.toH (by first | assumption | exact SH.rsR H (by (repeat first | exact At.here | apply At.there); done) | exact SH.rsO H (by (repeat first | exact At.here | apply At.there); done)) (by omega) | exact Rs.toL (by first | assumption | exact SH.rsR H (by (repeat first | exact At.here | apply At.there); done) | exact SH.rsO H (by (repeat first | exact At.here | apply At.there); done)) (by omega) | exact Rs.toLH (by first | assumption | exact SH.rsR H (by (repeat first | exact At.here | apply At.there); done) | exact SH.rsO H (by (repeat first | exact At.here | apply At.there); done)) (by omega) (by omega) | exact (Rs.nil : Rs Non _ _ _)) (by assumption) (by rfl) | exact Rs.cell0 (by first | assumption | exact SH.rsR H (by (repeat first | exact At.here | apply At.there); done) | exact SH.rsO H (by (repeat first | exact At.here | apply At.there); done) | exact Rs.toH (by first | assumption | exact SH.rsR H (by (repeat first | exact At.here | apply At.there); done) | exact SH.rsO H (by (repeat first | exact At.here | apply At.there); done)) (by omega) | exact Rs.toL (by first | assumption | exact SH.rsR H (by (repeat first | exact At.here | apply At.there); done) | exact SH.rsO H (by (repeat first | exact At.here | apply At.there); done)) (by omega) | exact Rs.toLH (by first | assumption | exact SH.rsR H (by (repeat first | exact At.here | apply At.there); done) | exact SH.rsO H (by (repeat first | exact At.here | apply At.there); done)) (by omega) (by omega) | exact (Rs.nil : Rs Non _ _ _)) (by assumption) (by rfl) | assumption) ?_
      refine r_move rfl ?_
      refine r_call rfl Try.call26 (by simp only [List.map_cons, List.map_nil, List.map_toArray, List.toList_toArray, upd_get, ev, Nat.reduceEqDiff, ↓reduceIte] <;> rfl) (AheadR_c c _ d4) ?_
      rintro _ _ ⟨rfl, rfl⟩
      refine ⟨_, rfl, ?_⟩
      refine r_move rfl ?_
      refine r_extract rfl (by simp only [upd_get, ev, Nat.reduceEqDiff, ↓reduceIte] <;> rfl) (by simp only [List.getElem?_toArray, List.getElem?_cons_zero, List.getElem?_cons_succ] <;> rfl) ?_
      refine r_extract rfl (by simp only [upd_get, ev, Nat.reduceEqDiff, ↓reduceIte] <;> rfl) (by simp only [List.getElem?_toArray, List.getElem?_cons_zero, List.getElem?_cons_succ] <;> rfl) ?_
      refine r_assign rfl ?_
      refine r_assign rfl ?_
      refine LW.nil ?_
      refine thenE_norm ?_
      refine cut (K := K8) [2, 11, 12, 14] (fun σ => ?_)
      simp only [setL, keepE, upd_get, ev, Nat.reduceEqDiff, ↓reduceIte]
      refine h8 _ _ ?_; clear h8; try clear K8
      refine CW.seq (fun K9 h9 => ?_)
      refine CW.seq (fun K10 h10 => ?_)
      by_cases hin2 : c ∈ m4
      · rw [aheadM, if_pos hin2]
        refine CW.region ?_
        refine r_move rfl ?_
        refine r_not rfl rfl ?_
        refine LW.nil ?_
        refine thenE_norm (h10 _ _ ?_); clear h10; try clear K10
        refine CW.condF rfl (by first | rfl | (simp only [decide_eq_true_eq, decide_eq_false_iff_not, Bool.and_eq_true, Bool.or_eq_true, Bool.and_eq_false_iff, Bool.or_eq_false_iff, Bool.not_eq_true', Bool.not_eq_false', beq_iff_eq, bne_iff_ne]; omega) | simp_all) ?_
        refine CW.skip ?_
        refine thenE_norm (h9 _ _ ?_); clear h9; try clear K9
        refine CW.seq (fun K11 h11 => ?_)
        refine CW.region ?_
        refine r_move rfl ?_
        refine r_move rfl ?_
        refine r_move rfl ?_
        refine r_move rfl ?_
        refine r_indexAddrV rfl Try.underlying48 (by simp only [upd_get, ev, Nat.reduceEqDiff, ↓reduceIte] <;> rfl) rfl (by first | assumption | exact SH.rsR H (by (repeat first | exact At.here | apply At.there); done) | exact SH.rsO H (by (repeat first | exact At.here | apply At.there); done) | exact Rs.toH (by first | assumption | exact SH.rsR H (by (repeat first | exact At.here | apply At.there); done) | exact SH.rsO H (by (repeat first | exact At.here | apply At.there); done)) (by omega) | exact Rs.toL (by first | assumption | exact SH.rsR H (by (repeat first | exact At.here | apply At.there); done) | exact SH.rsO H (by (repeat first | exact At.here | apply At.there); done)) (by omega) | exact Rs.toLH (by first | assumption | exact SH.rsR H (by (repeat first | exact At.here | apply At.there); done) | exact SH.rsO H (by (repeat first | exact At.here | apply At.there); done)) (by omega) (by omega) | exact (Rs.nil : Rs Non _ _ _)) (by exact Try.sizeOf53) (by omega) (by omega) ?_
        refine r_fieldAddrO rfl Try.underlying53 rfl Try.sizeOf22 (by decide) (show _ + 3 = _ from rfl) rfl ?_
        refine r_load rfl Try.isAgg22 rfl (by first | exact Rs.cell (o := 3) (by first | assumption | exact SH.rsR H (by (repeat first | exact At.here | apply At.there); done) | exact SH.rsO H (by (repeat first | exact At.here | apply At.there); done) | exact Rs.toH (by first | assumption | exact SH.rsR H (by (repeat first | exact At.here | apply At.there); done) | exact SH.rsO H (by (repeat first | exact At.here | apply At.there); done)) (by omega) | exact Rs.toL (by first | assumption | exact SH.rsR H (by (repeat first | exact At.here | apply At.there); done) | exact SH.rsO H (by (repeat first | exact At.here | apply At.there); done)) (by omega) | exact Rs.toLH (by first | assumption | exact SH.rsR H (by (repeat first | exact At.here | apply At.there); done) | exact SH.rsO H (by (repeat first | exact At.here | apply At.there); done)) (by omega) (by omega) | exact (Rs.nil : Rs Non _ _ _)) (by assumption) (by rfl) | exact Rs.cell0 (by first | assumption | exact SH.rsR H (by (repeat first | exact At.here | apply At.there); done) | exact SH.rsO H (by (repeat first | exact At.here | apply At.there); done) | exact Rs.toH (by first | assumption | exact SH.rsR H (by (repeat first | exact At.here | apply At.there); done) | exact SH.rsO H (by (repeat first | exact At.here | apply At.there); done)) (by omega) | exact Rs.toL (by first | assumption | exact SH.rsR H (by (repeat first | exact At.here | apply At.there); done) | exact SH.rsO H (by (repeat first | exact At.here | apply At.there); done)) (by omega) | exact Rs.toLH (by first | assumption | exact SH.rsR H (by (repeat first | exact At.here | apply At.there); done) | exact SH.rsO H (by (repeat first | exact At.here | apply At.there); done)) (by omega) (by omega) | exact (Rs.nil : Rs Non _ _ _)) (by assumption) (by rfl) | assumption) ?_
        refine r_move rfl ?_
        refine r_buildSlice rfl Try.underlying22 Try.sizeOf3 Try.zeroValue3 rfl rfl rfl (by simp only [List.map_cons, List.map_nil, List.toList_toArray, List.foldl_cons, List.foldl_nil, List.replicate_succ, List.replicate_zero, List.set_cons_zero, List.set_cons_succ, upd_get, ev, Nat.reduceEqDiff, ↓reduceIte] <;> rfl) ?_
        intro b9_8 w9_8 hb9_8 hs9_8 hE9_8 hB9_8
        replace H := SH.call H (SH.fromB hE9_8 hb9_8 hs9_8 hB9_8)
        clear hb9_8 hs9_8 hE9_8 hB9_8
        try dsimp only [replC, List.cons_append, List.nil_append, List.append_nil, agg, cellsL, Value.cells, List.toList_toArray, List.set_cons_zero, List.set_cons_succ, spliceL, List.take_succ_cons, List.take_zero, List.drop_succ_cons, List.drop_zero, List.length_cons, List.length_nil, Nat.reduceAdd, Row.cells, Gr.L, Lk.L, Act8.L] at H
        replace H := SH.row (b := b9_8) (xs := ([_] : List Int)) (n := 1) (cap := 1) H (by (repeat first | exact At.here | apply At.there); done) (by rfl) (by intro x hx; first | rfl | (simp at hx; done) | (simp only [List.mem_cons, List.not_mem_nil, or_false] at hx; rcases hx with rfl <;> first | rfl | exact (by first | rfl | assumption | exact Rs.oneC (by first | assumption | exact SH.rsR H (by (repeat first | exact At.here | apply At.there); done) | exact SH.rsO H (by (repeat first | exact At.here | apply At.there); done) | exact Rs.toH (by first | assumption | exact SH.rsR H (by (repeat first | exact At.here | apply At.there); done) | exact SH.rsO H (by (repeat first | exact At.here | apply At.there); done)) (by omega) | exact Rs.toL (by first | assumption | exact SH.rsR H (by (repeat first | exact At.here | apply At.there); done) | exact SH.rsO H (by (repeat first | exact At.here | apply At.there); done)) (by omega) | exact Rs.toLH (by first | assumption | exact SH.rsR H (by (repeat first | exact At.here | apply At.there); done) | exact SH.rsO H (by (repeat first | exact At.here | apply At.there); done)) (by omega) (by omega) | exact (Rs.nil : Rs Non _ _ _)) | (simp only [List.all_cons, List.all_nil, Bool.and_true, Bool.and_eq_true, Row.cells, Gr.L, Lk.L, Act8.L]; (repeat' constructor) <;> first | rfl | assumption | exact Rs.oneC (by first | assumption | exact SH.rsR H (by (repeat first | exact At.here | apply At.there); done) | exact SH.rsO H (by (repeat first | exact At.here | apply At.there); done) | exact Rs.toH (by first | assumption | exact SH.rsR H (by (repeat first | exact At.here | apply At.there); done) | exact SH.rsO H (by (repeat first | exact At.here | apply At.there); done)) (by omega) | exact Rs.toL (by first | assumption | exact SH.rsR H (by (repeat first | exact At.here | apply At.there); done) | exact SH.rsO H (by (repeat first | exact At.here | apply At.there); done)) (by omega) | exact Rs.toLH (by first | assumption | exact SH.rsR H (by (repeat first | exact At.here | apply At.there); done) | exact SH.rsO H (by (repeat first | exact At.here | apply At.there); done)) (by omega) (by omega) | exact (Rs.nil : Rs Non _ _ _)))))) (by rfl) rfl (by decide)
        try dsimp only [replC, List.cons_append, List.nil_append, List.append_nil, agg, cellsL, Value.cells, List.toList_toArray, List.set_cons_zero, List.set_cons_succ, spliceL, List.take_succ_cons, List.take_zero, List.drop_succ_cons, List.drop_zero, List.length_cons, List.length_nil, Nat.reduceAdd, Row.cells, Gr.L, Lk.L, Act8.L] at H
        have d5 : Rs F1_1 w9_8 q4 m4 := by
          obtain ⟨z, hz, hzr⟩ := All2.get' (SH.prop H (i := 2) rfl) hmi
          rw [hq] at hz; cases hz
          exact hzr.2.2.2
        refine r_call rfl Try.call27 (by simp only [List.map_cons, List.map_nil, List.map_toArray, List.toList_toArray, upd_get, ev, Nat.reduceEqDiff, ↓reduceIte] <;> rfl) (WithoutR_c _ d5 (SH.rsO H (i := 3) rfl) (by omega)) ?_
        rintro _ w9_9 ⟨v9_9, g9_9, rfl, K⟩
        refine ⟨_, rfl, ?_⟩
        replace H := SH.call H K
        clear K
        try dsimp only [replC, List.cons_append, List.nil_append, List.append_nil] at H
        refine r_indexAddrV rfl Try.underlying48 (by simp only [upd_get, ev, Nat.reduceEqDiff, ↓reduceIte] <;> rfl) rfl (by first | assumption | exact SH.rsR H (by (repeat first | exact At.here | apply At.there); done) | exact SH.rsO H (by (repeat first | exact At.here | apply At.there); done) | exact Rs.toH (by first | assumption | exact SH.rsR H (by (repeat first | exact At.here | apply At.there); done) | exact SH.rsO H (by (repeat first | exact At.here | apply At.there); done)) (by omega) | exact Rs.toL (by first | assumption | exact SH.rsR H (by (repeat first | exact At.here | apply At.there); done) | exact SH.rsO H (by (repeat first | exact At.here | apply At.there); done)) (by omega) | exact Rs.toLH (by first | assumption | exact SH.rsR H (by (repeat first | exact At.here | apply At.there); done) | exact SH.rsO H (by (repeat first | exact At.here | apply At.there); done)) (by omega) (by omega) | exact (Rs.nil : Rs Non _ _ _)) (by exact Try.sizeOf53) (by omega) (by omega) ?_
        refine r_fieldAddrO rfl Try.underlying53 rfl Try.sizeOf22 (by decide) (show _ + 3 = _ from rfl) rfl ?_
        refine s_storeR (o := 3) (x1 := (⟨n, q2, q3, v9_9⟩ : Lk)) H Try.sizeOf22 rfl (by simp only [upd_get, ev, Nat.reduceEqDiff, ↓reduceIte] <;> rfl) (by first | rfl | assumption | exact Rs.oneC (by first | assumption | exact SH.rsR H (by (repeat first | exact At.here | apply At.there); done) | exact SH.rsO H (by (repeat first | exact At.here | apply At.there); done) | exact Rs.toH (by first | assumption | exact SH.rsR H (by (repeat first | exact At.here | apply At.there); done) | exact SH.rsO H (by (repeat first | exact At.here | apply At.there); done)) (by omega) | exact Rs.toL (by first | assumption | exact SH.rsR H (by (repeat first | exact At.here | apply At.there); done) | exact SH.rsO H (by (repeat first | exact At.here | apply At.there); done)) (by omega) | exact Rs.toLH (by first | assumption | exact SH.rsR H (by (repeat first | exact At.here | apply At.there); done) | exact SH.rsO H (by (repeat first | exact At.here | apply At.there); done)) (by omega) (by omega) | exact (Rs.nil : Rs Non _ _ _)) | (simp only [List.all_cons, List.all_nil, Bool.and_true, Bool.and_eq_true, Row.cells, Gr.L, Lk.L, Act8.L]; (repeat' constructor) <;> first | rfl | assumption | exact Rs.oneC (by first | assumption | exact SH.rsR H (by (repeat first | exact At.here | apply At.there); done) | exact SH.rsO H (by (repeat first | exact At.here | apply At.there); done) | exact Rs.toH (by first | assumption | exact SH.rsR H (by (repeat first | exact At.here | apply At.there); done) | exact SH.rsO H (by (repeat first | exact At.here | apply At.there); done)) (by omega) | exact Rs.toL (by first | assumption | exact SH.rsR H (by (repeat first | exact At.here | apply At.there); done) | exact SH.rsO H (by (repeat first | exact At.here | apply At.there); done)) (by omega) | exact Rs.toLH (by first | assumption | exact SH.rsR H (by (repeat first | exact At.here | apply At.there); done) | exact SH.rsO H (by (repeat first | exact At.here | apply At.there); done)) (by omega) (by omega) | exact (Rs.nil : Rs Non _ _ _)))) (by (repeat first | exact At.here | apply At.there); done) hq7 (by rfl) (by rfl) (by rfl) (by first | rfl | assumption | exact Rs.oneC (by first | assumption | exact SH.rsR H (by (repeat first | exact At.here | apply At.there); done) | exact SH.rsO H (by (repeat first | exact At.here | apply At.there); done) | exact Rs.toH (by first | assumption | exact SH.rsR H (by (repeat first | exact At.here | apply At.there); done) | exact SH.rsO H (by (repeat first | exact At.here | apply At.there); done)) (by omega) | exact Rs.toL (by first | assumption | exact SH.rsR H (by (repeat first | exact At.here | apply At.there); done) | exact SH.rsO H (by (repeat first | exact At.here | apply At.there); done)) (by omega) | exact Rs.toLH (by first | assumption | exact SH.rsR H (by (repeat first | exact At.here | apply At.there); done) | exact SH.rsO H (by (repeat first | exact At.here | apply At.there); done)) (by omega) (by omega) | exact (Rs.nil : Rs Non _ _ _)) | (simp only [List.all_cons, List.all_nil, Bool.and_true, Bool.and_eq_true, Row.cells, Gr.L, Lk.L, Act8.L]; (repeat' constructor) <;> first | rfl | assumption | exact Rs.oneC (by first | assumption | exact SH.rsR H (by (repeat first | exact At.here | apply At.there); done) | exact SH.rsO H (by (repeat first | exact At.here | apply At.there); done) | exact Rs.toH (by first | assumption | exact SH.rsR H (by (repeat first | exact At.here | apply At.there); done) | exact SH.rsO H (by (repeat first | exact At.here | apply At.there); done)) (by omega) | exact Rs.toL (by first | assumption | exact SH.rsR H (by (repeat first | exact At.here | apply At.there); done) | exact SH.rsO H (by (repeat first | exact At.here | apply At.there); done)) (by omega) | exact Rs.toLH (by first | assumption | exact SH.rsR H (by (repeat first | exact At.here | apply At.there); done) | exact SH.rsO H (by (repeat first | exact At.here | apply At.there); done)) (by omega) (by omega) | exact (Rs.nil : Rs Non _ _ _)))) ?_
        clear H
        intro w9_12 H
        try dsimp only [replC, List.cons_append, List.nil_append, List.append_nil, agg, cellsL, Value.cells, List.toList_toArray, List.set_cons_zero, List.set_cons_succ, spliceL, List.take_succ_cons, List.take_zero, List.drop_succ_cons, List.drop_zero, List.length_cons, List.length_nil, Nat.reduceAdd, Row.cells, Gr.L, Lk.L, Act8.L] at H
        refine LW.nil ?_
        refine thenE_norm ?_
        refine cut (K := K11) [11] (fun σ => ?_)
        simp only [setL, keepE, upd_get, ev, Nat.reduceEqDiff, ↓reduceIte]
        refine h11 _ _ ?_; clear h11; try clear K11
        refine CW.seq (fun K12 h12 => ?_)
        refine CW.region ?_
        refine r_move rfl ?_
        refine r_assign rfl ?_
        refine r_assign rfl ?_
        refine r_assign rfl ?_
        refine LW.nil ?_
        refine thenE_norm (h12 _ _ ?_); clear h12; try clear K12
        refine CW.ret (thenE_ret (ret3 Try.results41 (by simp only [upd_get, ev, Nat.reduceEqDiff, ↓reduceIte]; rfl) (by simp only [upd_get, ev, Nat.reduceEqDiff, ↓reduceIte]; rfl) (by simp only [upd_get, ev, Nat.reduceEqDiff, ↓reduceIte]; rfl) ?_))
        rw [free_leave hmf (fun e => hc2 e) hin2, ← erase_filt hmnd]
        have H2 := SH.absorb (A' := LksA _ (raws1_1.set j (⟨n, q2, q3, v9_9⟩ : Lk)) (putT Lm.name ms ⟨n, q2, q3, m4.filter fun x => !decide (x ∈ [c])⟩)) (SH.sel H [2, 4, 1] (by decide) rfl) trivial lks_st (fun h k => by
          rw [← hputr]
          exact all2_putT lkr_key (LksA.mono h fun b hb => .inl hb) ⟨rfl, rfl, rfl, (Ow.rs k).mono fun b _ hb => .inr hb⟩)
        exact ⟨_, _, _, _, rfl, SH.give (SH.sel H2 [1, 0] (by decide) rfl) (List.Sublist.refl _) ⟨trivial, trivial, trivial⟩⟩
      · rw [aheadM, if_neg hin2]
        refine CW.region ?_
        refine r_move rfl ?_
        refine r_not rfl rfl ?_
        refine LW.nil ?_
        refine thenE_norm (h10 _ _ ?_); clear h10; try clear K10
        refine CW.condT rfl (by first | rfl | (simp only [decide_eq_true_eq, decide_eq_false_iff_not, Bool.and_eq_true, Bool.or_eq_true, Bool.and_eq_false_iff, Bool.or_eq_false_iff, Bool.not_eq_true', Bool.not_eq_false', beq_iff_eq, bne_iff_ne]; omega) | simp_all) ?_
        refine CW.seq (fun K13 h13 => ?_)
        refine CW.region ?_
        refine r_assign rfl ?_
        refine r_assign rfl ?_
        refine r_assign rfl ?_
        refine LW.nil ?_
        refine thenE_norm (h13 _ _ ?_); clear h13; try clear K13
        refine CW.ret (thenE_ret (thenE_ret (ret3 Try.results41 (by simp only [upd_get, ev, Nat.reduceEqDiff, ↓reduceIte]; rfl) (by simp only [upd_get, ev, Nat.reduceEqDiff, ↓reduceIte]; rfl) (by simp only [upd_get, ev, Nat.reduceEqDiff, ↓reduceIte]; rfl) ?_)))
        rw [free_no hmf (fun e => hc2 e) hin2]
        exact ⟨_, _, _, _, rfl, SH.give (addLs (SH.sel (H.addO (α := Lk) 53) [3] (by decide) rfl)) (List.Sublist.refl _) ⟨trivial, trivial, trivial⟩⟩
    · try simp only [decide_eq_true_eq, decide_eq_false_iff_not, Bool.and_eq_true, Bool.or_eq_true, Bool.and_eq_false_iff, Bool.or_eq_false_iff, Bool.not_eq_true', Bool.not_eq_false', beq_iff_eq, bne_iff_ne, ne_eq, Decidable.not_not] at hc2
      refine CW.skip ?_
      refine thenE_norm (h6 _ _ ?_); clear h6; try clear K6
      refine CW.seq (fun K14 h14 => ?_)
      refine CW.seq (fun K15 h15 => ?_)
      have hc2' : q2 = c := by first | exact hc2 | simpa using hc2
      refine CW.region ?_
      refine r_move rfl ?_
      refine r_move rfl ?_
      refine r_indexAddrV rfl Try.underlying48 (by simp only [upd_get, ev, Nat.reduceEqDiff, ↓reduceIte] <;> rfl) rfl (by first | assumption | exact SH.rsR H (by (repeat first | exact At.here | apply At.there); done) | exact SH.rsO H (by (repeat first | exact At.here | apply At.there); done) | exact Rs.toH (by first | assumption | exact SH.rsR H (by (repeat first | exact At.here | apply At.there); done) | exact SH.rsO H (by (repeat first | exact At.here | apply At.there); done)) (by omega) | exact Rs.toL (by first | assumption | exact SH.rsR H (by (repeat first | exact At.here | apply At.there); done) | exact SH.rsO H (by (repeat first | exact At.here | apply At.there); done)) (by omega) | exact Rs.toLH (by first | assumption | exact SH.rsR H (by (repeat first | exact At.here | apply At.there); done) | exact SH.rsO H (by (repeat first | exact At.here | apply At.there); done)) (by omega) (by omega) | exact (Rs.nil : Rs Non _ _ _)) (by exact Try.sizeOf53) (by omega) (by omega) ?_
      refine r_fieldAddrO rfl Try.underlying53 rfl Try.sizeOf22 (by decide) (show _ + 3 = _ from rfl) rfl ?_
      refine r_load rfl Try.isAgg22 rfl (by first | exact Rs.cell (o := 3) (by first | assumption | exact SH.rsR H (by (repeat first | exact At.here | apply At.there); done) | exact SH.rsO H (by (repeat first | exact At.here | apply At.there); done) | exact Rs.toH (by first | assumption | exact SH.rsR H (by (repeat first | exact At.here | apply At.there); done) | exact SH.rsO H (by (repeat first | exact At.here | apply At.there); done)) (by omega) | exact Rs.toL (by first | assumption | exact SH.rsR H (by (repeat first | exact At.here | apply At.there); done) | exact SH.rsO H (by (repeat first | exact At.here | apply At.there); done)) (by omega) | exact Rs.toLH (by first | assumption | exact SH.rsR H (by (repeat first | exact At.here | apply At.there); done) | exact SH.rsO H (by (repeat first | exact At.here | apply At.there); done)) (by omega) (by omega) | exact (Rs.nil : Rs Non _ _ _)) (by assumption) (by rfl) | exact Rs.cell0 (by first | assumption | exact SH.rsR H (by (repeat first | exact At.here | apply At.there); done) | exact SH.rsO H (by (repeat first | exact At.here | apply At.there); done) | exact Rs.toH (by first | assumption | exact SH.rsR H (by (repeat first | exact At.here | apply At.there); done) | exact SH.rsO H (by (repeat first | exact At.here | apply At.there); done)) (by omega) | exact Rs.toL (by first | assumption | exact SH.rsR H (by (repeat first | exact At.here | apply At.there); done) | exact SH.rsO H (by (repeat first | exact At.here | apply At.there); done)) (by omega) | exact Rs.toLH (by first | assumption | exact SH.rsR H (by (repeat first | exact At.here | apply At.there); done) | exact SH.rsO H (by (repeat first | exact At.here | apply At.there); done)) (by omega) (by omega) | exact (Rs.nil : Rs Non _ _ _)) (by assumption) (by rfl) | assumption) ?_
      first
        | refine r_lenV rfl Try.underlying22 (by simp only [upd_get, ev, Nat.reduceEqDiff, ↓reduceIte] <;> rfl) d4 ?_
        | refine r_len rfl Try.underlying22 rfl ?_
      refine r_eql rfl rfl rfl ?_
      refine LW.nil ?_
      refine thenE_norm (h15 _ _ ?_); clear h15; try clear K15
      refine CW.cond rfl (fun hc4 => ?_) (fun hc4 => ?_)
      · try simp only [decide_eq_true_eq, decide_eq_false_iff_not, Bool.and_eq_true, Bool.or_eq_true, Bool.and_eq_false_iff, Bool.or_eq_false_iff, Bool.not_eq_true', Bool.not_eq_false', beq_iff_eq, bne_iff_ne, ne_eq, Decidable.not_not] at hc4
        refine CW.seq (fun K16 h16 => ?_)
        refine CW.drawH [] H (List.Sublist.refl _) (by kernel_rfl) rfl ?_
        clear H
        intro w12d H
        refine DL.take (i := 1) [] rfl (by kernel_rfl) (by kernel_rfl) (by kernel_rfl) (by kernel_rfl) rfl rfl (fun u H => x_move ) H ?_
        refine DL.take (i := 2) [] rfl (by kernel_rfl) (by kernel_rfl) (by kernel_rfl) (by kernel_rfl) rfl rfl (fun u H => x_move ) H ?_
        refine DL.take (i := 3) [] rfl (by kernel_rfl) (by kernel_rfl) (by kernel_rfl) (by kernel_rfl) rfl rfl (fun u H => x_sliceHV Try.underlying48 (by simp only [upd_get, ev, Nat.reduceEqDiff, ↓reduceIte] <;> rfl) rfl (SH.rsO H (i := 1) rfl) (by exact Try.sizeOf53) (by omega) (by omega) ) H ?_
        refine DL.take (i := 5) [] rfl (by kernel_rfl) (by kernel_rfl) (by kernel_rfl) (by kernel_rfl) rfl rfl (fun u H => x_move ) H ?_
        refine DL.take (i := 6) [] rfl (by kernel_rfl) (by kernel_rfl) (by kernel_rfl) (by kernel_rfl) rfl rfl (fun u H => x_move ) H ?_
        refine DL.take (i := 7) [] rfl (by kernel_rfl) (by kernel_rfl) (by kernel_rfl) (by kernel_rfl) rfl rfl (fun u H => x_add rfl rfl (wr_i64 (by omega) (by omega))) H ?_
        refine DL.take (i := 8) [] rfl (by kernel_rfl) (by kernel_rfl) (by kernel_rfl) (by kernel_rfl) rfl rfl (fun u H => x_sliceLV Try.underlying48 (by simp only [upd_get, ev, Nat.reduceEqDiff, ↓reduceIte] <;> rfl) rfl (SH.rsO H (i := 1) rfl) (by exact Try.sizeOf53) (by omega) (by omega) ) H ?_
        refine DL.one (i := 0) (by kernel_rfl) rfl rfl ?_
        refine r_buildSlice0 rfl Try.underlying48 Try.sizeOf53 rfl ?_
        intro b12_0 w12_0 hb12_0 hs12_0 hE12_0 hB12_0
        replace H := SH.call H (SH.fromB hE12_0 hb12_0 hs12_0 hB12_0)
        clear hb12_0 hs12_0 hE12_0 hB12_0
        try dsimp only [replC, List.cons_append, List.nil_append, List.append_nil, agg, cellsL, Value.cells, List.toList_toArray, List.set_cons_zero, List.set_cons_succ, spliceL, List.take_succ_cons, List.take_zero, List.drop_succ_cons, List.drop_zero, List.length_cons, List.length_nil, Nat.reduceAdd, Row.cells, Gr.L, Lk.L, Act8.L] at H
        replace H := SH.row (b := b12_0) (xs := ([] : List Lk)) (n := 0) (cap := 0) H (by (repeat first | exact At.here | apply At.there); done) (by simp only [flat, List.flatMap_cons, List.flatMap_nil, cellsL, agg, List.append_nil, List.cons_append, List.nil_append, List.toList_toArray, Row.cells, Gr.L, Lk.L, Act8.L] <;> rfl) (by intro x hx; first | rfl | (simp at hx; done) | (simp only [List.mem_cons, List.not_mem_nil, or_false] at hx; rcases hx with rfl <;> first | rfl | exact (by first | rfl | assumption | exact Rs.oneC (by first | assumption | exact SH.rsR H (by (repeat first | exact At.here | apply At.there); done) | exact SH.rsO H (by (repeat first | exact At.here | apply At.there); done) | exact Rs.toH (by first | assumption | exact SH.rsR H (by (repeat first | exact At.here | apply At.there); done) | exact SH.rsO H (by (repeat first | exact At.here | apply At.there); done)) (by omega) | exact Rs.toL (by first | assumption | exact SH.rsR H (by (repeat first | exact At.here | apply At.there); done) | exact SH.rsO H (by (repeat first | exact At.here | apply At.there); done)) (by omega) | exact Rs.toLH (by first | assumption | exact SH.rsR H (by (repeat first | exact At.here | apply At.there); done) | exact SH.rsO H (by (repeat first | exact At.here | apply At.there); done)) (by omega) (by omega) | exact (Rs.nil : Rs Non _ _ _)) | (simp only [List.all_cons, List.all_nil, Bool.and_true, Bool.and_eq_true, Row.cells, Gr.L, Lk.L, Act8.L]; (repeat' constructor) <;> first | rfl | assumption | exact Rs.oneC (by first | assumption | exact SH.rsR H (by (repeat first | exact At.here | apply At.there); done) | exact SH.rsO H (by (repeat first | exact At.here | apply At.there); done) | exact Rs.toH (by first | assumption | exact SH.rsR H (by (repeat first | exact At.here | apply At.there); done) | exact SH.rsO H (by (repeat first | exact At.here | apply At.there); done)) (by omega) | exact Rs.toL (by first | assumption | exact SH.rsR H (by (repeat first | exact At.here | apply At.there); done) | exact SH.rsO H (by (repeat first | exact At.here | apply At.there); done)) (by omega) | exact Rs.toLH (by first | assumption | exact SH.rsR H (by (repeat first | exact At.here | apply At.there); done) | exact SH.rsO H (by (repeat first | exact At.here | apply At.there); done)) (by omega) (by omega) | exact (Rs.nil : Rs Non _ _ _)))))) (by rfl) rfl (by decide)
        try dsimp only [replC, List.cons_append, List.nil_append, List.append_nil, agg, cellsL, Value.cells, List.toList_toArray, List.set_cons_zero, List.set_cons_succ, spliceL, List.take_succ_cons, List.take_zero, List.drop_succ_cons, List.drop_zero, List.length_cons, List.length_nil, Nat.reduceAdd, Row.cells, Gr.L, Lk.L, Act8.L] at H
        refine LW.nil (thenE_norm ⟨fun _ => (SH.sub H (by repeat first | exact List.Sublist.refl _ | exact List.nil_sublist _ | apply List.Sublist.cons_cons | apply List.Sublist.cons)), ?_⟩)
        refine DL.one (i := 4) (by kernel_rfl) rfl rfl ?_
        first
          | refine s_append H rfl Try.underlying48 Try.underlying48 Try.type53 rfl (by simp only [upd_get, ev, Nat.reduceEqDiff, ↓reduceIte] <;> rfl) (by simp only [upd_get, ev, Nat.reduceEqDiff, ↓reduceIte] <;> rfl) (by (repeat first | exact At.here | apply At.there); done) (Rs.toH (h := j) (SH.rsO H (i := 1) rfl) (by omega)) (by rfl) (by rfl) (by first | omega | (simp only [Try.t53, List.length_append, List.length_cons, List.length_nil, List.length_map, maxLen]; omega) | (simp [Try.t53, maxLen]; omega)) (by first | omega | (simp only [Try.t53, List.length_append, List.length_cons, List.length_nil, List.length_map, maxLen]; omega) | (simp [Try.t53, maxLen]; omega)) ?_
          | refine s_appendNil H rfl Try.underlying48 Try.underlying48 Try.type53 rfl rfl (by simp only [upd_get, ev, Nat.reduceEqDiff, ↓reduceIte] <;> rfl) (Rs.toH (h := j) (SH.rsO H (i := 1) rfl) (by omega)) (by rfl) (by rfl) (by first | omega | (simp only [Try.t53, List.length_append, List.length_cons, List.length_nil, List.length_map, maxLen]; omega) | (simp [Try.t53, maxLen]; omega)) ?_
        clear H
        intro v12_4 w12_4 g12_4 H hN12_4
        try dsimp only [replC, List.cons_append, List.nil_append, List.append_nil] at H
        refine LW.nil (thenE_norm ⟨fun _ => (SH.sub H (by repeat first | exact List.Sublist.refl _ | exact List.nil_sublist _ | apply List.Sublist.cons_cons | apply List.Sublist.cons)), ?_⟩)
        refine DL.one (i := 9) (by kernel_rfl) rfl rfl ?_
        first
          | refine s_append H rfl Try.underlying48 Try.underlying48 Try.type53 rfl (by simp only [upd_get, ev, Nat.reduceEqDiff, ↓reduceIte] <;> rfl) (by simp only [upd_get, ev, Nat.reduceEqDiff, ↓reduceIte] <;> rfl) (by (repeat first | exact At.here | apply At.there); done) (Rs.toL (l := j + 1) (SH.rsO H (i := 1) rfl) (by omega)) (by rfl) (by rfl) (by first | omega | (simp only [Try.t53, List.length_append, List.length_cons, List.length_nil, List.length_map, maxLen]; omega) | (simp [Try.t53, maxLen]; omega)) (by first | omega | (simp only [Try.t53, List.length_append, List.length_cons, List.length_nil, List.length_map, maxLen]; omega) | (simp [Try.t53, maxLen]; omega)) ?_
          | refine s_appendNil H rfl Try.underlying48 Try.underlying48 Try.type53 rfl rfl (by simp only [upd_get, ev, Nat.reduceEqDiff, ↓reduceIte] <;> rfl) (Rs.toL (l := j + 1) (SH.rsO H (i := 1) rfl) (by omega)) (by rfl) (by rfl) (by first | omega | (simp only [Try.t53, List.length_append, List.length_cons, List.length_nil, List.length_map, maxLen]; omega) | (simp [Try.t53, maxLen]; omega)) ?_
        clear H
        intro v12_9 w12_9 g12_9 H hN12_9
        try dsimp only [replC, List.cons_append, List.nil_append, List.append_nil] at H
        refine LW.nil (thenE_norm ⟨fun _ => (SH.sub H (by repeat first | exact List.Sublist.refl _ | exact List.nil_sublist _ | apply List.Sublist.cons_cons | apply List.Sublist.cons)), ?_⟩)
        refine DL.take (i := 10) [] rfl (by kernel_rfl) (by kernel_rfl) (by kernel_rfl) (by kernel_rfl) rfl rfl (fun u H => x_assign ) (SH.sub H (by repeat first | exact List.Sublist.refl _ | exact List.nil_sublist _ | apply List.Sublist.cons_cons | apply List.Sublist.cons)) ?_
        refine DL.take (i := 11) [] rfl (by kernel_rfl) (by kernel_rfl) (by kernel_rfl) (by kernel_rfl) rfl rfl (fun u H => x_assign ) (SH.sub H (by repeat first | exact List.Sublist.refl _ | exact List.nil_sublist _ | apply List.Sublist.cons_cons | apply List.Sublist.cons)) ?_
        refine DL.take (i := 12) [] rfl (by kernel_rfl) (by kernel_rfl) (by kernel_rfl) (by kernel_rfl) rfl rfl (fun u H => x_assign ) (SH.sub H (by repeat first | exact List.Sublist.refl _ | exact List.nil_sublist _ | apply List.Sublist.cons_cons | apply List.Sublist.cons)) ?_
        refine DL.done (by kernel_rfl) ?_
        refine thenE_norm ?_
        refine cut (K := K16) [8, 9, 10] (fun σ => ?_)
        simp only [setL, keepE, upd_get, ev, Nat.reduceEqDiff, ↓reduceIte]
        refine h16 _ _ ?_; clear h16; try clear K16
        refine CW.ret (thenE_ret (ret3 Try.results41 (by simp only [upd_get, ev, Nat.reduceEqDiff, ↓reduceIte]; rfl) (by simp only [upd_get, ev, Nat.reduceEqDiff, ↓reduceIte]; rfl) (by simp only [upd_get, ev, Nat.reduceEqDiff, ↓reduceIte]; rfl) ?_))
        have hz : m4 = [] := List.eq_nil_of_length_eq_zero (by omega)
        rw [free_gone hmf hc2' hz]
        have hcut : raws1_1.take j ++ raws1_1.drop (j + 1) = raws1_1.filter fun x => !decide (x.name = n) := cutT hup1 hq
        have H2 := SH.cast (d := .P F1_1 (LksA F1_1 (raws1_1.take j ++ raws1_1.drop (j + 1)) (ms.filter fun x => !decide (x.name = n)))) H (i := 2) rfl (fun _ => trivial) (fun b hb => hb) lks_st (fun h => by
          rw [hcut]; exact all2_filtT lkr_key (fun z => !decide (z = n)) h)
        exact ⟨_, _, _, _, rfl, SH.give (SH.sel H2 [3, 2] (by decide) rfl) (List.Sublist.refl _) ⟨trivial, trivial, trivial⟩⟩
      · try simp only [decide_eq_true_eq, decide_eq_false_iff_not, Bool.and_eq_true, Bool.or_eq_true, Bool.and_eq_false_iff, Bool.or_eq_false_iff, Bool.not_eq_true', Bool.not_eq_false', beq_iff_eq, bne_iff_ne, ne_eq, Decidable.not_not] at hc4
        refine CW.skip ?_
        refine thenE_norm (h14 _ _ ?_); clear h14; try clear K14
        refine CW.seq (fun K17 h17 => ?_)
        obtain ⟨x, r, rfl⟩ : ∃ x r, m4 = x :: r := by
          cases m4 with
          | nil => simp at hc4
          | cons x r => exact ⟨x, r, rfl⟩
        have hx0 : (x :: r)[(0 : Int).toNat]? = some x := rfl
        rw [List.length_cons] at hml
        refine CW.region ?_
        refine r_move rfl ?_
        refine r_move rfl ?_
        refine r_move rfl ?_
        refine r_move rfl ?_
        refine r_indexAddrV rfl Try.underlying48 (by simp only [upd_get, ev, Nat.reduceEqDiff, ↓reduceIte] <;> rfl) rfl (by first | assumption | exact SH.rsR H (by (repeat first | exact At.here | apply At.there); done) | exact SH.rsO H (by (repeat first | exact At.here | apply At.there); done) | exact Rs.toH (by first | assumption | exact SH.rsR H (by (repeat first | exact At.here | apply At.there); done) | exact SH.rsO H (by (repeat first | exact At.here | apply At.there); done)) (by omega) | exact Rs.toL (by first | assumption | exact SH.rsR H (by (repeat first | exact At.here | apply At.there); done) | exact SH.rsO H (by (repeat first | exact At.here | apply At.there); done)) (by omega) | exact Rs.toLH (by first | assumption | exact SH.rsR H (by (repeat first | exact At.here | apply At.there); done) | exact SH.rsO H (by (repeat first | exact At.here | apply At.there); done)) (by omega) (by omega) | exact (Rs.nil : Rs Non _ _ _)) (by exact Try.sizeOf53) (by omega) (by omega) ?_
        refine r_fieldAddrO rfl Try.underlying53 rfl Try.sizeOf22 (by decide) (show _ + 3 = _ from rfl) rfl ?_
        refine r_load rfl Try.isAgg22 rfl (by first | exact Rs.cell (o := 3) (by first | assumption | exact SH.rsR H (by (repeat first | exact At.here | apply At.there); done) | exact SH.rsO H (by (repeat first | exact At.here | apply At.there); done) | exact Rs.toH (by first | assumption | exact SH.rsR H (by (repeat first | exact At.here | apply At.there); done) | exact SH.rsO H (by (repeat first | exact At.here | apply At.there); done)) (by omega) | exact Rs.toL (by first | assumption | exact SH.rsR H (by (repeat first | exact At.here | apply At.there); done) | exact SH.rsO H (by (repeat first | exact At.here | apply At.there); done)) (by omega) | exact Rs.toLH (by first | assumption | exact SH.rsR H (by (repeat first | exact At.here | apply At.there); done) | exact SH.rsO H (by (repeat first | exact At.here | apply At.there); done)) (by omega) (by omega) | exact (Rs.nil : Rs Non _ _ _)) (by assumption) (by rfl) | exact Rs.cell0 (by first | assumption | exact SH.rsR H (by (repeat first | exact At.here | apply At.there); done) | exact SH.rsO H (by (repeat first | exact At.here | apply At.there); done) | exact Rs.toH (by first | assumption | exact SH.rsR H (by (repeat first | exact At.here | apply At.there); done) | exact SH.rsO H (by (repeat first | exact At.here | apply At.there); done)) (by omega) | exact Rs.toL (by first | assumption | exact SH.rsR H (by (repeat first | exact At.here | apply At.there); done) | exact SH.rsO H (by (repeat first | exact At.here | apply At.there); done)) (by omega) | exact Rs.toLH (by first | assumption | exact SH.rsR H (by (repeat first | exact At.here | apply At.there); done) | exact SH.rsO H (by (repeat first | exact At.here | apply At.there); done)) (by omega) (by omega) | exact (Rs.nil : Rs Non _ _ _)) (by assumption) (by rfl) | assumption) ?_
        refine r_indexAddrV rfl Try.underlying22 (by simp only [upd_get, ev, Nat.reduceEqDiff, ↓reduceIte] <;> rfl) rfl d4 (by exact Try.sizeOf3) (by decide) (by simp) ?_
        refine r_load rfl Try.isAgg3 rfl (d4.cell0 hx0 rfl) ?_
        refine r_indexAddrV rfl Try.underlying48 (by simp only [upd_get, ev, Nat.reduceEqDiff, ↓reduceIte] <;> rfl) rfl (by first | assumption | exact SH.rsR H (by (repeat first | exact At.here | apply At.there); done) | exact SH.rsO H (by (repeat first | exact At.here | apply At.there); done) | exact Rs.toH (by first | assumption | exact SH.rsR H (by (repeat first | exact At.here | apply At.there); done) | exact SH.rsO H (by (repeat first | exact At.here | apply At.there); done)) (by omega) | exact Rs.toL (by first | assumption | exact SH.rsR H (by (repeat first | exact At.here | apply At.there); done) | exact SH.rsO H (by (repeat first | exact At.here | apply At.there); done)) (by omega) | exact Rs.toLH (by first | assumption | exact SH.rsR H (by (repeat first | exact At.here | apply At.there); done) | exact SH.rsO H (by (repeat first | exact At.here | apply At.there); done)) (by omega) (by omega) | exact (Rs.nil : Rs Non _ _ _)) (by exact Try.sizeOf53) (by omega) (by omega) ?_
        refine r_fieldAddrO rfl Try.underlying53 rfl Try.sizeOf3 (by decide) (show _ + 1 = _ from rfl) rfl ?_
        refine s_storeR (o := 1) (x1 := (⟨n, x, q3, q4⟩ : Lk)) H Try.sizeOf3 rfl (by simp only [upd_get, ev, Nat.reduceEqDiff, ↓reduceIte] <;> rfl) (by first | rfl | assumption | exact Rs.oneC (by first | assumption | exact SH.rsR H (by (repeat first | exact At.here | apply At.there); done) | exact SH.rsO H (by (repeat first | exact At.here | apply At.there); done) | exact Rs.toH (by first | assumption | exact SH.rsR H (by (repeat first | exact At.here | apply At.there); done) | exact SH.rsO H (by (repeat first | exact At.here | apply At.there); done)) (by omega) | exact Rs.toL (by first | assumption | exact SH.rsR H (by (repeat first | exact At.here | apply At.there); done) | exact SH.rsO H (by (repeat first | exact At.here | apply At.there); done)) (by omega) | exact Rs.toLH (by first | assumption | exact SH.rsR H (by (repeat first | exact At.here | apply At.there); done) | exact SH.rsO H (by (repeat first | exact At.here | apply At.there); done)) (by omega) (by omega) | exact (Rs.nil : Rs Non _ _ _)) | (simp only [List.all_cons, List.all_nil, Bool.and_true, Bool.and_eq_true, Row.cells, Gr.L, Lk.L, Act8.L]; (repeat' constructor) <;> first | rfl | assumption | exact Rs.oneC (by first | assumption | exact SH.rsR H (by (repeat first | exact At.here | apply At.there); done) | exact SH.rsO H (by (repeat first | exact At.here | apply At.there); done) | exact Rs.toH (by first | assumption | exact SH.rsR H (by (repeat first | exact At.here | apply At.there); done) | exact SH.rsO H (by (repeat first | exact At.here | apply At.there); done)) (by omega) | exact Rs.toL (by first | assumption | exact SH.rsR H (by (repeat first | exact At.here | apply At.there); done) | exact SH.rsO H (by (repeat first | exact At.here | apply At.there); done)) (by omega) | exact Rs.toLH (by first | assumption | exact SH.rsR H (by (repeat first | exact At.here | apply At.there); done) | exact SH.rsO H (by (repeat first | exact At.here | apply At.there); done)) (by omega) (by omega) | exact (Rs.nil : Rs Non _ _ _)))) (by (repeat first | exact At.here | apply At.there); done) hq7 (by rfl) (by rfl) (by rfl) (by first | rfl | assumption | exact Rs.oneC (by first | assumption | exact SH.rsR H (by (repeat first | exact At.here | apply At.there); done) | exact SH.rsO H (by (repeat first | exact At.here | apply At.there); done) | exact Rs.toH (by first | assumption | exact SH.rsR H (by (repeat first | exact At.here | apply At.there); done) | exact SH.rsO H (by (repeat first | exact At.here | apply At.there); done)) (by omega) | exact Rs.toL (by first | assumption | exact SH.rsR H (by (repeat first | exact At.here | apply At.there); done) | exact SH.rsO H (by (repeat first | exact At.here | apply At.there); done)) (by omega) | exact Rs.toLH (by first | assumption | exact SH.rsR H (by (repeat first | exact At.here | apply At.there); done) | exact SH.rsO H (by (repeat first | exact At.here | apply At.there); done)) (by omega) (by omega) | exact (Rs.nil : Rs Non _ _ _)) | (simp only [List.all_cons, List.all_nil, Bool.and_true, Bool.and_eq_true, Row.cells, Gr.L, Lk.L, Act8.L]; (repeat' constructor) <;> first | rfl | assumption | exact Rs.oneC (by first | assumption | exact SH.rsR H (by (repeat first | exact At.here | apply At.there); done) | exact SH.rsO H (by (repeat first | exact At.here | apply At.there); done) | exact Rs.toH (by first | assumption | exact SH.rsR H (by (repeat first | exact At.here | apply At.there); done) | exact SH.rsO H (by (repeat first | exact At.here | apply At.there); done)) (by omega) | exact Rs.toL (by first | assumption | exact SH.rsR H (by (repeat first | exact At.here | apply At.there); done) | exact SH.rsO H (by (repeat first | exact At.here | apply At.there); done)) (by omega) | exact Rs.toLH (by first | assumption | exact SH.rsR H (by (repeat first | exact At.here | apply At.there); done) | exact SH.rsO H (by (repeat first | exact At.here | apply At.there); done)) (by omega) (by omega) | exact (Rs.nil : Rs Non _ _ _)))) ?_
        clear H
        intro w13_11 H
        try dsimp only [replC, List.cons_append, List.nil_append, List.append_nil, agg, cellsL, Value.cells, List.toList_toArray, List.set_cons_zero, List.set_cons_succ, spliceL, List.take_succ_cons, List.take_zero, List.drop_succ_cons, List.drop_zero, List.length_cons, List.length_nil, Nat.reduceAdd, Row.cells, Gr.L, Lk.L, Act8.L] at H
        refine LW.nil ?_
        refine thenE_norm ?_
        refine cut (K := K17) [3, 11, 12] (fun σ => ?_)
        simp only [setL, keepE, upd_get, ev, Nat.reduceEqDiff, ↓reduceIte]
        refine h17 _ _ ?_; clear h17; try clear K17
        refine CW.seq (fun K18 h18 => ?_)
        rw [Int.toNat_natCast] at H
        have hq8 : (raws1_1.set j (⟨n, x, q3, q4⟩ : Lk))[((j : Nat) : Int).toNat]? = some ⟨n, x, q3, q4⟩ := List.getElem?_set_self hql
        have hl8 : (raws1_1.set j (⟨n, x, q3, q4⟩ : Lk)).length = raws1_1.length := List.length_set
        refine CW.region ?_
        refine r_move rfl ?_
        refine r_move rfl ?_
        refine r_buildSlice rfl Try.underlying22 Try.sizeOf3 Try.zeroValue3 rfl rfl rfl (by simp only [List.map_cons, List.map_nil, List.toList_toArray, List.foldl_cons, List.foldl_nil, List.replicate_succ, List.replicate_zero, List.set_cons_zero, List.set_cons_succ, upd_get, ev, Nat.reduceEqDiff, ↓reduceIte] <;> rfl) ?_
        intro b14_2 w14_2 hb14_2 hs14_2 hE14_2 hB14_2
        replace H := SH.call H (SH.fromB hE14_2 hb14_2 hs14_2 hB14_2)
        clear hb14_2 hs14_2 hE14_2 hB14_2
        try dsimp only [replC, List.cons_append, List.nil_append, List.append_nil, agg, cellsL, Value.cells, List.toList_toArray, List.set_cons_zero, List.set_cons_succ, spliceL, List.take_succ_cons, List.take_zero, List.drop_succ_cons, List.drop_zero, List.length_cons, List.length_nil, Nat.reduceAdd, Row.cells, Gr.L, Lk.L, Act8.L] at H
        replace H := SH.row (b := b14_2) (xs := ([] : List Int)) (n := 0) (cap := 0) H (by (repeat first | exact At.here | apply At.there); done) (by rfl) (by intro x hx; first | rfl | (simp at hx; done) | (simp only [List.mem_cons, List.not_mem_nil, or_false] at hx; rcases hx with rfl <;> first | rfl | exact (by first | rfl | assumption | exact Rs.oneC (by first | assumption | exact SH.rsR H (by (repeat first | exact At.here | apply At.there); done) | exact SH.rsO H (by (repeat first | exact At.here | apply At.there); done) | exact Rs.toH (by first | assumption | exact SH.rsR H (by (repeat first | exact At.here | apply At.there); done) | exact SH.rsO H (by (repeat first | exact At.here | apply At.there); done)) (by omega) | exact Rs.toL (by first | assumption | exact SH.rsR H (by (repeat first | exact At.here | apply At.there); done) | exact SH.rsO H (by (repeat first | exact At.here | apply At.there); done)) (by omega) | exact Rs.toLH (by first | assumption | exact SH.rsR H (by (repeat first | exact At.here | apply At.there); done) | exact SH.rsO H (by (repeat first | exact At.here | apply At.there); done)) (by omega) (by omega) | exact (Rs.nil : Rs Non _ _ _)) | (simp only [List.all_cons, List.all_nil, Bool.and_true, Bool.and_eq_true, Row.cells, Gr.L, Lk.L, Act8.L]; (repeat' constructor) <;> first | rfl | assumption | exact Rs.oneC (by first | assumption | exact SH.rsR H (by (repeat first | exact At.here | apply At.there); done) | exact SH.rsO H (by (repeat first | exact At.here | apply At.there); done) | exact Rs.toH (by first | assumption | exact SH.rsR H (by (repeat first | exact At.here | apply At.there); done) | exact SH.rsO H (by (repeat first | exact At.here | apply At.there); done)) (by omega) | exact Rs.toL (by first | assumption | exact SH.rsR H (by (repeat first | exact At.here | apply At.there); done) | exact SH.rsO H (by (repeat first | exact At.here | apply At.there); done)) (by omega) | exact Rs.toLH (by first | assumption | exact SH.rsR H (by (repeat first | exact At.here | apply At.there); done) | exact SH.rsO H (by (repeat first | exact At.here | apply At.there); done)) (by omega) (by omega) | exact (Rs.nil : Rs Non _ _ _)))))) (by rfl) rfl (by decide)
        try dsimp only [replC, List.cons_append, List.nil_append, List.append_nil, agg, cellsL, Value.cells, List.toList_toArray, List.set_cons_zero, List.set_cons_succ, spliceL, List.take_succ_cons, List.take_zero, List.drop_succ_cons, List.drop_zero, List.length_cons, List.length_nil, Nat.reduceAdd, Row.cells, Gr.L, Lk.L, Act8.L] at H
        refine r_move rfl ?_
        refine r_move rfl ?_
        refine r_indexAddrV rfl Try.underlying48 (by simp only [upd_get, ev, Nat.reduceEqDiff, ↓reduceIte] <;> rfl) rfl (by first | assumption | exact SH.rsR H (by (repeat first | exact At.here | apply At.there); done) | exact SH.rsO H (by (repeat first | exact At.here | apply At.there); done) | exact Rs.toH (by first | assumption | exact SH.rsR H (by (repeat first | exact At.here | apply At.there); done) | exact SH.rsO H (by (repeat first | exact At.here | apply At.there); done)) (by omega) | exact Rs.toL (by first | assumption | exact SH.rsR H (by (repeat first | exact At.here | apply At.there); done) | exact SH.rsO H (by (repeat first | exact At.here | apply At.there); done)) (by omega) | exact Rs.toLH (by first | assumption | exact SH.rsR H (by (repeat first | exact At.here | apply At.there); done) | exact SH.rsO H (by (repeat first | exact At.here | apply At.there); done)) (by omega) (by omega) | exact (Rs.nil : Rs Non _ _ _)) (by exact Try.sizeOf53) (by omega) (by omega) ?_
        refine r_fieldAddrO rfl Try.underlying53 rfl Try.sizeOf22 (by decide) (show _ + 3 = _ from rfl) rfl ?_
        refine r_load rfl Try.isAgg22 rfl (by first | exact Rs.cell (o := 3) (by first | assumption | exact SH.rsR H (by (repeat first | exact At.here | apply At.there); done) | exact SH.rsO H (by (repeat first | exact At.here | apply At.there); done) | exact Rs.toH (by first | assumption | exact SH.rsR H (by (repeat first | exact At.here | apply At.there); done) | exact SH.rsO H (by (repeat first | exact At.here | apply At.there); done)) (by omega) | exact Rs.toL (by first | assumption | exact SH.rsR H (by (repeat first | exact At.here | apply At.there); done) | exact SH.rsO H (by (repeat first | exact At.here | apply At.there); done)) (by omega) | exact Rs.toLH (by first | assumption | exact SH.rsR H (by (repeat first | exact At.here | apply At.there); done) | exact SH.rsO H (by (repeat first | exact At.here | apply At.there); done)) (by omega) (by omega) | exact (Rs.nil : Rs Non _ _ _)) (by assumption) (by rfl) | exact Rs.cell0 (by first | assumption | exact SH.rsR H (by (repeat first | exact At.here | apply At.there); done) | exact SH.rsO H (by (repeat first | exact At.here | apply At.there); done) | exact Rs.toH (by first | assumption | exact SH.rsR H (by (repeat first | exact At.here | apply At.there); done) | exact SH.rsO H (by (repeat first | exact At.here | apply At.there); done)) (by omega) | exact Rs.toL (by first | assumption | exact SH.rsR H (by (repeat first | exact At.here | apply At.there); done) | exact SH.rsO H (by (repeat first | exact At.here | apply At.there); done)) (by omega) | exact Rs.toLH (by first | assumption | exact SH.rsR H (by (repeat first | exact At.here | apply At.there); done) | exact SH.rsO H (by (repeat first | exact At.here | apply At.there); done)) (by omega) (by omega) | exact (Rs.nil : Rs Non _ _ _)) (by assumption) (by rfl) | assumption) ?_
        have d5 : Rs F1_1 w14_2 q4 (x :: r) := by
          obtain ⟨z, hz, hzr⟩ := All2.get' (SH.prop H (i := 2) rfl) hmi
          rw [hq] at hz; cases hz
          exact hzr.2.2.2
        refine r_sliceLV rfl Try.underlying22 (by simp only [upd_get, ev, Nat.reduceEqDiff, ↓reduceIte] <;> rfl) rfl d5 (by exact Try.sizeOf3) (by omega) (by omega)  ?_
        first
          | refine s_append H rfl Try.underlying22 Try.underlying22 Try.type3 rfl (by simp only [upd_get, ev, Nat.reduceEqDiff, ↓reduceIte] <;> rfl) (by simp only [upd_get, ev, Nat.reduceEqDiff, ↓reduceIte] <;> rfl) (by (repeat first | exact At.here | apply At.there); done) (Rs.toL (l := 1) d5 (by simp)) (by rfl) (by rfl) (by first | omega | (simp only [Try.t3, List.length_append, List.length_cons, List.length_nil, List.length_map, maxLen]; omega) | (simp [Try.t3, maxLen]; omega)) (by first | omega | (simp only [Try.t3, List.length_append, List.length_cons, List.length_nil, List.length_map, maxLen]; omega) | (simp [Try.t3, maxLen]; omega)) ?_
          | refine s_appendNil H rfl Try.underlying22 Try.underlying22 Try.type3 rfl rfl (by simp only [upd_get, ev, Nat.reduceEqDiff, ↓reduceIte] <;> rfl) (Rs.toL (l := 1) d5 (by simp)) (by rfl) (by rfl) (by first | omega | (simp only [Try.t3, List.length_append, List.length_cons, List.length_nil, List.length_map, maxLen]; omega) | (simp [Try.t3, maxLen]; omega)) ?_
        clear H
        intro v14_9 w14_9 g14_9 H hN14_9
        try dsimp only [replC, List.cons_append, List.nil_append, List.append_nil] at H
        refine r_indexAddrV rfl Try.underlying48 (by simp only [upd_get, ev, Nat.reduceEqDiff, ↓reduceIte] <;> rfl) rfl (by first | assumption | exact SH.rsR H (by (repeat first | exact At.here | apply At.there); done) | exact SH.rsO H (by (repeat first | exact At.here | apply At.there); done) | exact Rs.toH (by first | assumption | exact SH.rsR H (by (repeat first | exact At.here | apply At.there); done) | exact SH.rsO H (by (repeat first | exact At.here | apply At.there); done)) (by omega) | exact Rs.toL (by first | assumption | exact SH.rsR H (by (repeat first | exact At.here | apply At.there); done) | exact SH.rsO H (by (repeat first | exact At.here | apply At.there); done)) (by omega) | exact Rs.toLH (by first | assumption | exact SH.rsR H (by (repeat first | exact At.here | apply At.there); done) | exact SH.rsO H (by (repeat first | exact At.here | apply At.there); done)) (by omega) (by omega) | exact (Rs.nil : Rs Non _ _ _)) (by exact Try.sizeOf53) (by omega) (by omega) ?_
        refine r_fieldAddrO rfl Try.underlying53 rfl Try.sizeOf22 (by decide) (show _ + 3 = _ from rfl) rfl ?_
        refine s_storeR (o := 3) (x1 := (⟨n, x, q3, v14_9⟩ : Lk)) H Try.sizeOf22 rfl (by simp only [upd_get, ev, Nat.reduceEqDiff, ↓reduceIte] <;> rfl) (by first | rfl | assumption | exact Rs.oneC (by first | assumption | exact SH.rsR H (by (repeat first | exact At.here | apply At.there); done) | exact SH.rsO H (by (repeat first | exact At.here | apply At.there); done) | exact Rs.toH (by first | assumption | exact SH.rsR H (by (repeat first | exact At.here | apply At.there); done) | exact SH.rsO H (by (repeat first | exact At.here | apply At.there); done)) (by omega) | exact Rs.toL (by first | assumption | exact SH.rsR H (by (repeat first | exact At.here | apply At.there); done) | exact SH.rsO H (by (repeat first | exact At.here | apply At.there); done)) (by omega) | exact Rs.toLH (by first | assumption | exact SH.rsR H (by (repeat first | exact At.here | apply At.there); done) | exact SH.rsO H (by (repeat first | exact At.here | apply At.there); done)) (by omega) (by omega) | exact (Rs.nil : Rs Non _ _ _)) | (simp only [List.all_cons, List.all_nil, Bool.and_true, Bool.and_eq_true, Row.cells, Gr.L, Lk.L, Act8.L]; (repeat' constructor) <;> first | rfl | assumption | exact Rs.oneC (by first | assumption | exact SH.rsR H (by (repeat first | exact At.here | apply At.there); done) | exact SH.rsO H (by (repeat first | exact At.here | apply At.there); done) | exact Rs.toH (by first | assumption | exact SH.rsR H (by (repeat first | exact At.here | apply At.there); done) | exact SH.rsO H (by (repeat first | exact At.here | apply At.there); done)) (by omega) | exact Rs.toL (by first | assumption | exact SH.rsR H (by (repeat first | exact At.here | apply At.there); done) | exact SH.rsO H (by (repeat first | exact At.here | apply At.there); done)) (by omega) | exact Rs.toLH (by first | assumption | exact SH.rsR H (by (repeat first | exact At.here | apply At.there); done) | exact SH.rsO H (by (repeat first | exact At.here | apply At.there); done)) (by omega) (by omega) | exact (Rs.nil : Rs Non _ _ _)))) (by (repeat first | exact At.here | apply At.there); done) hq8 (by rfl) (by rfl) (by rfl) (by first | rfl | assumption | exact Rs.oneC (by first | assumption | exact SH.rsR H (by (repeat first | exact At.here | apply At.there); done) | exact SH.rsO H (by (repeat first | exact At.here | apply At.there); done) | exact Rs.toH (by first | assumption | exact SH.rsR H (by (repeat first | exact At.here | apply At.there); done) | exact SH.rsO H (by (repeat first | exact At.here | apply At.there); done)) (by omega) | exact Rs.toL (by first | assumption | exact SH.rsR H (by (repeat first | exact At.here | apply At.there); done) | exact SH.rsO H (by (repeat first | exact At.here | apply At.there); done)) (by omega) | exact Rs.toLH (by first | assumption | exact SH.rsR H (by (repeat first | exact At.here | apply At.there); done) | exact SH.rsO H (by (repeat first | exact At.here | apply At.there); done)) (by omega) (by omega) | exact (Rs.nil : Rs Non _ _ _)) | (simp only [List.all_cons, List.all_nil, Bool.and_true, Bool.and_eq_true, Row.cells, Gr.L, Lk.L, Act8.L]; (repeat' constructor) <;> first | rfl | assumption | exact Rs.oneC (by first | assumption | exact SH.rsR H (by (repeat first | exact At.here | apply At.there); done) | exact SH.rsO H (by (repeat first | exact At.here | apply At.there); done) | exact Rs.toH (by first | assumption | exact SH.rsR H (by (repeat first | exact At.here | apply At.there); done) | exact SH.rsO H (by (repeat first | exact At.here | apply At.there); done)) (by omega) | exact Rs.toL (by first | assumption | exact SH.rsR H (by (repeat first | exact At.here | apply At.there); done) | exact SH.rsO H (by (repeat first | exact At.here | apply At.there); done)) (by omega) | exact Rs.toLH (by first | assumption | exact SH.rsR H (by (repeat first | exact At.here | apply At.there); done) | exact SH.rsO H (by (repeat first | exact At.here | apply At.there); done)) (by omega) (by omega) | exact (Rs.nil : Rs Non _ _ _)))) ?_
        clear H
        intro w14_12 H
        try dsimp only [replC, List.cons_append, List.nil_append, List.append_nil, agg, cellsL, Value.cells, List.toList_toArray, List.set_cons_zero, List.set_cons_succ, spliceL, List.take_succ_cons, List.take_zero, List.drop_succ_cons, List.drop_zero, List.length_cons, List.length_nil, Nat.reduceAdd, Row.cells, Gr.L, Lk.L, Act8.L] at H
        refine LW.nil ?_
        refine thenE_norm ?_
        refine cut (K := K18) [3, 11, 12] (fun σ => ?_)
        simp only [setL, keepE, upd_get, ev, Nat.reduceEqDiff, ↓reduceIte]
        refine h18 _ _ ?_; clear h18; try clear K18
        refine CW.seq (fun K19 h19 => ?_)
        rw [Int.toNat_natCast] at H
        have hq9 : ((raws1_1.set j (⟨n, x, q3, q4⟩ : Lk)).set j (⟨n, x, q3, v14_9⟩ : Lk))[((j : Nat) : Int).toNat]? = some ⟨n, x, q3, v14_9⟩ := List.getElem?_set_self (by rw [hl8]; exact hql)
        have hl9 : ((raws1_1.set j (⟨n, x, q3, q4⟩ : Lk)).set j (⟨n, x, q3, v14_9⟩ : Lk)).length = raws1_1.length := by rw [List.length_set, hl8]
        have hov : oneC v14_9 = true := Rs.oneC (SH.rsO H (i := 3) rfl)
        refine CW.region ?_
        refine r_move rfl ?_
        refine r_move rfl ?_
        refine r_move rfl ?_
        refine r_add rfl rfl rfl (wr_i64 (by omega) (by omega)) ?_
        refine r_indexAddrV rfl Try.underlying48 (by simp only [upd_get, ev, Nat.reduceEqDiff, ↓reduceIte] <;> rfl) rfl (by first | assumption | exact SH.rsR H (by (repeat first | exact At.here | apply At.there); done) | exact SH.rsO H (by (repeat first | exact At.here | apply At.there); done) | exact Rs.toH (by first | assumption | exact SH.rsR H (by (repeat first | exact At.here | apply At.there); done) | exact SH.rsO H (by (repeat first | exact At.here | apply At.there); done)) (by omega) | exact Rs.toL (by first | assumption | exact SH.rsR H (by (repeat first | exact At.here | apply At.there); done) | exact SH.rsO H (by (repeat first | exact At.here | apply At.there); done)) (by omega) | exact Rs.toLH (by first | assumption | exact SH.rsR H (by (repeat first | exact At.here | apply At.there); done) | exact SH.rsO H (by (repeat first | exact At.here | apply At.there); done)) (by omega) (by omega) | exact (Rs.nil : Rs Non _ _ _)) (by exact Try.sizeOf53) (by omega) (by omega) ?_
        refine r_fieldAddrO rfl Try.underlying53 rfl Try.sizeOf3 (by decide) (show _ + 2 = _ from rfl) rfl ?_
        refine s_storeR (o := 2) (x1 := (⟨n, x, tok + 1, v14_9⟩ : Lk)) H Try.sizeOf3 rfl (by simp only [upd_get, ev, Nat.reduceEqDiff, ↓reduceIte] <;> rfl) (by first | rfl | assumption | exact Rs.oneC (by first | assumption | exact SH.rsR H (by (repeat first | exact At.here | apply At.there); done) | exact SH.rsO H (by (repeat first | exact At.here | apply At.there); done) | exact Rs.toH (by first | assumption | exact SH.rsR H (by (repeat first | exact At.here | apply At.there); done) | exact SH.rsO H (by (repeat first | exact At.here | apply At.there); done)) (by omega) | exact Rs.toL (by first | assumption | exact SH.rsR H (by (repeat first | exact At.here | apply At.there); done) | exact SH.rsO H (by (repeat first | exact At.here | apply At.there); done)) (by omega) | exact Rs.toLH (by first | assumption | exact SH.rsR H (by (repeat first | exact At.here | apply At.there); done) | exact SH.rsO H (by (repeat first | exact At.here | apply At.there); done)) (by omega) (by omega) | exact (Rs.nil : Rs Non _ _ _)) | (simp only [List.all_cons, List.all_nil, Bool.and_true, Bool.and_eq_true, Row.cells, Gr.L, Lk.L, Act8.L]; (repeat' constructor) <;> first | rfl | assumption | exact Rs.oneC (by first | assumption | exact SH.rsR H (by (repeat first | exact At.here | apply At.there); done) | exact SH.rsO H (by (repeat first | exact At.here | apply At.there); done) | exact Rs.toH (by first | assumption | exact SH.rsR H (by (repeat first | exact At.here | apply At.there); done) | exact SH.rsO H (by (repeat first | exact At.here | apply At.there); done)) (by omega) | exact Rs.toL (by first | assumption | exact SH.rsR H (by (repeat first | exact At.here | apply At.there); done) | exact SH.rsO H (by (repeat first | exact At.here | apply At.there); done)) (by omega) | exact Rs.toLH (by first | assumption | exact SH.rsR H (by (repeat first | exact At.here | apply At.there); done) | exact SH.rsO H (by (repeat first | exact At.here | apply At.there); done)) (by omega) (by omega) | exact (Rs.nil : Rs Non _ _ _)))) (by (repeat first | exact At.here | apply At.there); done) hq9 (by rfl) (by rfl) (by rfl) (by first | rfl | assumption | exact Rs.oneC (by first | assumption | exact SH.rsR H (by (repeat first | exact At.here | apply At.there); done) | exact SH.rsO H (by (repeat first | exact At.here | apply At.there); done) | exact Rs.toH (by first | assumption | exact SH.rsR H (by (repeat first | exact At.here | apply At.there); done) | exact SH.rsO H (by (repeat first | exact At.here | apply At.there); done)) (by omega) | exact Rs.toL (by first | assumption | exact SH.rsR H (by (repeat first | exact At.here | apply At.there); done) | exact SH.rsO H (by (repeat first | exact At.here | apply At.there); done)) (by omega) | exact Rs.toLH (by first | assumption | exact SH.rsR H (by (repeat first | exact At.here | apply At.there); done) | exact SH.rsO H (by (repeat first | exact At.here | apply At.there); done)) (by omega) (by omega) | exact (Rs.nil : Rs Non _ _ _)) | (simp only [List.all_cons, List.all_nil, Bool.and_true, Bool.and_eq_true, Row.cells, Gr.L, Lk.L, Act8.L]; (repeat' constructor) <;> first | rfl | assumption | exact Rs.oneC (by first | assumption | exact SH.rsR H (by (repeat first | exact At.here | apply At.there); done) | exact SH.rsO H (by (repeat first | exact At.here | apply At.there); done) | exact Rs.toH (by first | assumption | exact SH.rsR H (by (repeat first | exact At.here | apply At.there); done) | exact SH.rsO H (by (repeat first | exact At.here | apply At.there); done)) (by omega) | exact Rs.toL (by first | assumption | exact SH.rsR H (by (repeat first | exact At.here | apply At.there); done) | exact SH.rsO H (by (repeat first | exact At.here | apply At.there); done)) (by omega) | exact Rs.toLH (by first | assumption | exact SH.rsR H (by (repeat first | exact At.here | apply At.there); done) | exact SH.rsO H (by (repeat first | exact At.here | apply At.there); done)) (by omega) (by omega) | exact (Rs.nil : Rs Non _ _ _)))) ?_
        clear H
        intro w15_6 H
        try dsimp only [replC, List.cons_append, List.nil_append, List.append_nil, agg, cellsL, Value.cells, List.toList_toArray, List.set_cons_zero, List.set_cons_succ, spliceL, List.take_succ_cons, List.take_zero, List.drop_succ_cons, List.drop_zero, List.length_cons, List.length_nil, Nat.reduceAdd, Row.cells, Gr.L, Lk.L, Act8.L] at H
        refine LW.nil ?_
        refine thenE_norm (h19 _ _ ?_); clear h19; try clear K19
        refine CW.seq (fun K20 h20 => ?_)
        refine CW.region ?_
        refine r_move rfl ?_
        refine r_assign rfl ?_
        refine r_assign rfl ?_
        refine r_assign rfl ?_
        refine LW.nil ?_
        refine thenE_norm ?_
        refine cut (K := K20) [8, 9, 10] (fun σ => ?_)
        simp only [setL, keepE, upd_get, ev, Nat.reduceEqDiff, ↓reduceIte]
        refine h20 _ _ ?_; clear h20; try clear K20
        refine CW.ret (ret3 Try.results41 (by simp only [upd_get, ev, Nat.reduceEqDiff, ↓reduceIte]; rfl) (by simp only [upd_get, ev, Nat.reduceEqDiff, ↓reduceIte]; rfl) (by simp only [upd_get, ev, Nat.reduceEqDiff, ↓reduceIte]; rfl) ?_)
        rw [free_next hmf hc2' (by simp)]
        have hss : ((raws1_1.set j (⟨n, x, q3, q4⟩ : Lk)).set j (⟨n, x, q3, v14_9⟩ : Lk)).set ((j : Nat) : Int).toNat (⟨n, x, tok + 1, v14_9⟩ : Lk) = raws1_1.set j (⟨n, x, tok + 1, v14_9⟩ : Lk) := by
          rw [Int.toNat_natCast, List.set_set, List.set_set]
        replace H : SH Non Any w w15_6 [.R (Old w) v raws, .O 53 v1_1 (raws1_1.set j (⟨n, x, tok + 1, v14_9⟩ : Lk)) g1_1, .P F1_1 (LksA F1_1 raws1_1 ms), .O 3 v14_9 r g14_9] := by rw [← hss]; exact H
        have H2 := SH.absorb (A' := LksA _ (raws1_1.set j (⟨n, x, tok + 1, v14_9⟩ : Lk)) (putT Lm.name ms ⟨n, x, tok + 1, r⟩)) (SH.sel H [2, 3, 1] (by decide) rfl) trivial lks_st (fun h k => by
          rw [← hputr]
          exact all2_putT lkr_key (LksA.mono h fun b hb => .inl hb) ⟨rfl, rfl, rfl, (Ow.rs k).mono fun b _ hb => .inr hb⟩)
        exact ⟨_, _, _, _, rfl, SH.give (SH.sel H2 [1, 0] (by decide) rfl) (List.Sublist.refl _) ⟨trivial, trivial, trivial⟩⟩
  · have hno5 : ∀ q ∈ raws1_1, Lk.name q ≠ n := fun q hq e => by
      obtain ⟨j, hj⟩ := List.mem_iff_getElem?.1 hq
      obtain ⟨p, hp, hpr⟩ := All2.get hm1 hj
      exact hno p (List.mem_of_getElem? hp) (by rw [← hpr.1]; exact e)
    rw [fiL_no hup1 hno5]
    refine CW.region ?_
    refine r_move rfl ?_
    refine r_lss rfl rfl rfl ?_
    refine LW.nil ?_
    refine thenE_norm (h5 _ _ ?_); clear h5; try clear K5
    refine CW.condT rfl (by first | rfl | (simp only [decide_eq_true_eq, decide_eq_false_iff_not, Bool.and_eq_true, Bool.or_eq_true, Bool.and_eq_false_iff, Bool.or_eq_false_iff, Bool.not_eq_true', Bool.not_eq_false', beq_iff_eq, bne_iff_ne]; omega) | simp_all) ?_
    refine CW.seq (fun K21 h21 => ?_)
    refine CW.region ?_
    refine r_assign rfl ?_
    refine r_assign rfl ?_
    refine r_assign rfl ?_
    refine LW.nil ?_
    refine thenE_norm (h21 _ _ ?_); clear h21; try clear K21
    refine CW.ret (thenE_ret (ret3 Try.results41 (by simp only [upd_get, ev, Nat.reduceEqDiff, ↓reduceIte]; rfl) (by simp only [upd_get, ev, Nat.reduceEqDiff, ↓reduceIte]; rfl) (by simp only [upd_get, ev, Nat.reduceEqDiff, ↓reduceIte]; rfl) ?_))
    rw [free_none hmf]
    exact ⟨_, _, _, _, rfl, SH.give (addLs (SH.sel (H.addO (α := Lk) 53) [3] (by decide) rfl)) (List.Sublist.refl _) ⟨trivial, trivial, trivial⟩⟩
end Go.Proofs.Ytaggdlbjgjagbaa
