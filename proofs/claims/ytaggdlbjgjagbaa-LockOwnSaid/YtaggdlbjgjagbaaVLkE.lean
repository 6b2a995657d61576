/-
  The walks of layer 8's laws, the second part: clients by bits; what takes, frees and drops do to tokens.
-/
import Derived.Test.YtaggdlbjgjagbaaVLkS
import Derived.Test.YtaggdlbjgjagbaaVLaw4E
import Derived.Test.YtaggdlbjgjagbaaVArr
namespace Go.Proofs.Ytaggdlbjgjagbaa
set_option linter.unusedSimpArgs false
set_option linter.unusedVariables false
set_option maxRecDepth 20000
open Go.V Go.RowKit Go.ChangeShapes Go.WideShapes

structure Act8 where
  dov : UInt8
  name : UInt8
  client : UInt8
deriving DecidableEq
def Act8.L (a : Act8) : List Value := [u8v a.dov, u8v a.name, u8v a.client]
instance : Row Act8 := ⟨3, Act8.L, ⟨0, 0, 0⟩, fun _ => rfl, rfl⟩
def Act8.Good (w : World) (a : Act8) : Prop := True ∧ True ∧ True
theorem Act8.opens : Opens Try.prog (α := Act8) 65 Act8.Good := fun H enc w base spare held fuel cs x hl h => by
  obtain ⟨u0, u1, u2, rfl⟩ := list3 hl
  obtain ⟨m0, hf0⟩ := open_fields Try.underlying65 h
  obtain ⟨y0, t0⟩ := hf0 0 _ 1 rfl (by kernel_rfl)
  obtain ⟨a0, e0, -, w0⟩ := DataW.trod_int Try.underlying5 t0
  obtain ⟨b0, hb0⟩ := u8_wf w0
  rw [hb0] at e0
  obtain rfl : u0 = _ := by simpa using e0
  obtain ⟨y1, t1⟩ := hf0 1 _ 1 rfl (by kernel_rfl)
  obtain ⟨a1, e1, -, w1⟩ := DataW.trod_int Try.underlying5 t1
  obtain ⟨b1, hb1⟩ := u8_wf w1
  rw [hb1] at e1
  obtain rfl : u1 = _ := by simpa using e1
  obtain ⟨y2, t2⟩ := hf0 2 _ 1 rfl (by kernel_rfl)
  obtain ⟨a2, e2, -, w2⟩ := DataW.trod_int Try.underlying5 t2
  obtain ⟨b2, hb2⟩ := u8_wf w2
  rw [hb2] at e2
  obtain rfl : u2 = _ := by simpa using e2
  exact ⟨⟨b0, b1, b2⟩, rfl, (by first | rfl | (simp only [Row.cells, Act8.L]; repeat (first | rfl | refine Bool.and_eq_true_iff.2 ⟨(by first | rfl | assumption), ?_⟩))), ⟨trivial, trivial, trivial⟩⟩
theorem SH.shareI {U G : Nat → Prop} {w0 w : World} {L : List Ch} {F : Nat → Prop} {A A' : World → Prop} {i : Nat} (H : SH U G w0 w L) (hi : At L i (.I F A)) (hst : Ch.St F A') (h : A' w) : SH U G w0 w (L ++ [.I F A']) := by
  have hc := H.val.1 _ hi.mem
  refine ⟨H.ext, H.val.app (Val.one ⟨h, hst, hc.lt, fun h => h.elim, hc.imm⟩) ?_⟩
  intro c hcm d hd ho b h1 h2
  rw [List.mem_singleton] at hd
  subst hd
  rcases ho with ho | ho
  · obtain ⟨L1, L2, e, _⟩ := hi.split
    have hp := H.val.2
    rw [e] at hp hcm
    have hp1 := List.pairwise_append.1 hp
    rcases (by simpa using hcm : c ∈ L1 ∨ c = _ ∨ c ∈ L2) with hm | rfl | hm
    · exact hp1.2.2 c hm (.I F A) (by simp) (.inl ho) b h1 h2
    · exact ho
    · exact (List.pairwise_cons.1 hp1.2.1).1 c hm (.inr ho) b h2 h1
  · exact ho
theorem SH.freezeP {U G : Nat → Prop} {w0 w : World} {L : List Ch} {F : Nat → Prop} {A : World → Prop} {i : Nat} (H : SH U G w0 w L) (hi : At L i (.P F A)) (hst : Ch.St F A) : SH U G w0 w (replC L i [.I F A]) :=
  H.cast (d := .I F A) hi (fun h => h.elim) (fun b hb => hb) hst (fun h => h)
/-- The clients whose bits are set, of the first so many. -/
def cliN (n : Int) (i : Nat) : List Int := ((List.range i).filter fun j => decide (n / 2 ^ j % 2 = 1)).map fun j : Nat => (j : Int)
theorem cliN_snoc (n : Int) (i : Nat) : cliN n (i + 1) = cliN n i ++ (if n / 2 ^ i % 2 = 1 then [(i : Int)] else []) := by
  rw [cliN, cliN, List.range_succ, List.filter_append, List.map_append, List.filter_cons]
  by_cases h : n / 2 ^ i % 2 = 1
  · rw [if_pos h, if_pos (decide_eq_true h)]; rfl
  · rw [if_neg h, if_neg (by rw [decide_eq_false h]; exact Bool.false_ne_true)]; rfl
theorem cliN_len (n : Int) (i : Nat) : (cliN n i).length ≤ i := by
  rw [cliN, List.length_map]
  exact Nat.le_trans (List.length_filter_le _ _) (by simp)
theorem cliN_in (n : Int) (i : Nat) : ∀ c ∈ cliN n i, 0 ≤ c ∧ c < i := fun c hc => by
  rw [cliN, List.mem_map] at hc
  obtain ⟨j, hj, rfl⟩ := hc
  have := List.mem_range.1 (List.mem_filter.1 hj).1
  omega
theorem clients_c (n : Int) (w : World) (n0 : 0 ≤ n) (n1 : n < 256) :
    Calls Try.prog 39 #[.int .u8 n] w fun e w' => ∃ v g, e = .returned v ∧ SH Non Non w w' [.O 3 v (cliN n 8) g] := by
  have H := SH.start (U := Non) (G := Any) w
  refine calls_of_CW Try.func39 rfl Try.ntmps39 (Nat.le_of_ble_eq_true rfl) ?_
  simp only [argE, argFrom, Nat.reduceAdd]
  refine CW.seq (fun K1 h1 => ?_)
  refine CW.region ?_
  refine r_assign rfl ?_
  refine LW.nil ?_
  refine thenE_norm (h1 _ _ ?_); clear h1; try clear K1
  refine CW.seq (fun K2 h2 => ?_)
  refine CW.region ?_
  refine r_assign rfl ?_
  refine LW.nil ?_
  refine thenE_norm (h2 _ _ ?_); clear h2; try clear K2
  refine CW.seq (fun K3 h3 => ?_)
  refine CW.seq (fun K4 h4 => ?_)
  refine CW.region ?_
  refine r_assign rfl ?_
  refine LW.nil ?_
  refine thenE_norm (h4 _ _ ?_); clear h4; try clear K4
  refine CW.block ?_
  refine CW.loopR [0] [3, 4] (fun m vs w' => ∃ (i : Nat) (v : Value) (g : Option Nat), vs = [v, .int .i64 i] ∧ i ≤ 8 ∧ m = 8 - i ∧ SH Non Any w w' [.O 3 v (cliN n i) g]) (8) ?_ ?_
  · exact ⟨0, .slice none 0 0, none, rfl, by omega, by omega, H.addO (α := Int) 3⟩
  try clear H
  rintro n1 vs1 wL1 σ ⟨i, v, g, rfl, hi, rfl, H⟩
  simp only [setL, keepE, upd_get, ev, Nat.reduceEqDiff, ↓reduceIte]
  refine CW.seq (fun K5 h5 => ?_)
  refine CW.seq (fun K6 h6 => ?_)
  refine CW.region ?_
  refine r_move rfl ?_
  refine r_lss rfl rfl rfl ?_
  refine LW.nil ?_
  refine thenE_norm (h6 _ _ ?_); clear h6; try clear K6
  refine CW.cond rfl (fun hc1 => ?_) (fun hc1 => ?_)
  · try simp only [decide_eq_true_eq, decide_eq_false_iff_not, Bool.and_eq_true, Bool.or_eq_true, Bool.and_eq_false_iff, Bool.or_eq_false_iff, Bool.not_eq_true', Bool.not_eq_false', beq_iff_eq, bne_iff_ne, ne_eq, Decidable.not_not] at hc1
    refine CW.skip ?_
    refine thenE_norm (h5 _ _ ?_); clear h5; try clear K5
    refine CW.seq (fun K7 h7 => ?_)
    refine CW.block ?_
    refine CW.seq (fun K8 h8 => ?_)
    have hi8 : i < 8 := by omega
    have hcl := cliN_len n i
    have hd0 : 0 ≤ n / 2 ^ i := Int.ediv_nonneg n0 (Int.le_of_lt (Int.pow_pos (by decide)))
    have hd1 : n / 2 ^ i < 256 := Int.lt_of_le_of_lt (Int.ediv_le_self _ n0) n1
    refine CW.region ?_
    refine r_move rfl ?_
    refine r_move rfl ?_
    refine r_convI rfl Try.underlying3 Try.underlying88 rfl (wr_u64 (by omega) (by omega)) ?_
    refine r_shr rfl rfl rfl (by omega) (by rw [Int.toNat_natCast]; show i ≤ 8; omega) ?_
    rw [Int.toNat_natCast]
    refine r_and rfl rfl rfl hd0 hd1 ?_
    refine r_eql rfl rfl rfl ?_
    refine LW.nil ?_
    refine thenE_norm ?_
    refine cut (K := K8) [0, 3, 4, 14] (fun σ => ?_)
    simp only [setL, keepE, upd_get, ev, Nat.reduceEqDiff, ↓reduceIte]
    refine h8 _ _ ?_; clear h8; try clear K8
    refine CW.cond rfl (fun hc2 => ?_) (fun hc2 => ?_)
    · try simp only [decide_eq_true_eq, decide_eq_false_iff_not, Bool.and_eq_true, Bool.or_eq_true, Bool.and_eq_false_iff, Bool.or_eq_false_iff, Bool.not_eq_true', Bool.not_eq_false', beq_iff_eq, bne_iff_ne, ne_eq, Decidable.not_not] at hc2
      refine CW.region ?_
      refine r_move rfl ?_
      refine r_move rfl ?_
      refine r_buildSlice rfl Try.underlying22 Try.sizeOf3 Try.zeroValue3 rfl rfl rfl (by simp only [List.map_cons, List.map_nil, List.toList_toArray, List.foldl_cons, List.foldl_nil, List.replicate_succ, List.replicate_zero, List.set_cons_zero, List.set_cons_succ, upd_get, ev, Nat.reduceEqDiff, ↓reduceIte] <;> rfl) ?_
      intro b6_2 w6_2 hb6_2 hs6_2 hE6_2 hB6_2
      replace H := SH.call H (SH.fromB hE6_2 hb6_2 hs6_2 hB6_2)
      clear hb6_2 hs6_2 hE6_2 hB6_2
      try dsimp only [replC, List.cons_append, List.nil_append, List.append_nil, agg, cellsL, Value.cells, List.toList_toArray, List.set_cons_zero, List.set_cons_succ, spliceL, List.take_succ_cons, List.take_zero, List.drop_succ_cons, List.drop_zero, List.length_cons, List.length_nil, Nat.reduceAdd, Row.cells, Gr.L, Lk.L, Act8.L] at H
      replace H := SH.row (b := b6_2) (xs := ([_] : List Int)) (n := 1) (cap := 1) H (by (repeat first | exact At.here | apply At.there); done) (by rfl) (by intro x hx; first | rfl | (simp at hx; done) | (simp only [List.mem_cons, List.not_mem_nil, or_false] at hx; rcases hx with rfl <;> first | rfl | exact (by first | rfl | assumption | exact Rs.oneC (by first | assumption | exact SH.rsR H (by (repeat first | exact At.here | apply At.there); done) | exact SH.rsO H (by (repeat first | exact At.here | apply At.there); done) | exact (Rs.nil : Rs Non _ _ _)) | (simp only [List.all_cons, List.all_nil, Bool.and_true, Bool.and_eq_true, Row.cells, Gr.L, Lk.L, Act8.L]; (repeat' constructor) <;> first | rfl | assumption | exact Rs.oneC (by first | assumption | exact SH.rsR H (by (repeat first | exact At.here | apply At.there); done) | exact SH.rsO H (by (repeat first | exact At.here | apply At.there); done) | exact (Rs.nil : Rs Non _ _ _)))))) (by rfl) rfl (by decide)
      try dsimp only [replC, List.cons_append, List.nil_append, List.append_nil, agg, cellsL, Value.cells, List.toList_toArray, List.set_cons_zero, List.set_cons_succ, spliceL, List.take_succ_cons, List.take_zero, List.drop_succ_cons, List.drop_zero, List.length_cons, List.length_nil, Nat.reduceAdd, Row.cells, Gr.L, Lk.L, Act8.L] at H
      refine s_append H rfl Try.underlying22 Try.underlying22 Try.type3 rfl (by simp only [upd_get, ev, Nat.reduceEqDiff, ↓reduceIte] <;> rfl) (by simp only [upd_get, ev, Nat.reduceEqDiff, ↓reduceIte] <;> rfl) (by (repeat first | exact At.here | apply At.there); done) (by first | assumption | exact SH.rsR H (by (repeat first | exact At.here | apply At.there); done) | exact SH.rsO H (by (repeat first | exact At.here | apply At.there); done) | exact (Rs.nil : Rs Non _ _ _)) (by rfl) (by rfl) (by first | omega | (simp only [Try.t3, List.length_append, List.length_cons, List.length_nil, List.length_map, maxLen]; omega) | (simp [Try.t3, maxLen]; omega)) (by first | omega | (simp only [Try.t3, List.length_append, List.length_cons, List.length_nil, List.length_map, maxLen]; omega) | (simp [Try.t3, maxLen]; omega)) ?_
      clear H
      intro v6_3 w6_3 g6_3 H hN6_3
      try dsimp only [replC, List.cons_append, List.nil_append, List.append_nil] at H
      refine r_assign rfl ?_
      refine LW.nil ?_
      refine blockE_norm ?_
      refine thenE_norm (h7 _ _ ?_); clear h7; try clear K7
      refine CW.region ?_
      refine r_move rfl ?_
      refine r_add rfl rfl rfl (wr_i64 (by omega) (by omega)) ?_
      refine r_assign rfl ?_
      refine LW.nil ?_
      refine thenE_norm ⟨rfl, ?_⟩
      exact ⟨8 - (i + 1), by omega, i + 1, v6_3, g6_3, rfl, by omega, rfl, by rw [cliN_snoc, if_pos (by omega)]; exact SH.sel H [0] (by decide) rfl⟩
    · try simp only [decide_eq_true_eq, decide_eq_false_iff_not, Bool.and_eq_true, Bool.or_eq_true, Bool.and_eq_false_iff, Bool.or_eq_false_iff, Bool.not_eq_true', Bool.not_eq_false', beq_iff_eq, bne_iff_ne, ne_eq, Decidable.not_not] at hc2
      refine CW.skip ?_
      refine blockE_norm ?_
      refine thenE_norm (h7 _ _ ?_); clear h7; try clear K7
      refine CW.region ?_
      refine r_move rfl ?_
      refine r_add rfl rfl rfl (wr_i64 (by omega) (by omega)) ?_
      refine r_assign rfl ?_
      refine LW.nil ?_
      refine thenE_norm ⟨rfl, ?_⟩
      exact ⟨8 - (i + 1), by omega, i + 1, v, g, rfl, by omega, rfl, by rw [cliN_snoc, if_neg (by omega), List.append_nil]; exact SH.sel H [0] (by decide) rfl⟩
  · try simp only [decide_eq_true_eq, decide_eq_false_iff_not, Bool.and_eq_true, Bool.or_eq_true, Bool.and_eq_false_iff, Bool.or_eq_false_iff, Bool.not_eq_true', Bool.not_eq_false', beq_iff_eq, bne_iff_ne, ne_eq, Decidable.not_not] at hc1
    refine CW.exit (thenE_exit (thenE_exit (blockE_hit ?_)))
    refine thenE_norm (h3 _ _ ?_); clear h3; try clear K3
    refine CW.seq (fun K9 h9 => ?_)
    refine CW.region ?_
    refine r_move rfl ?_
    refine r_assign rfl ?_
    refine LW.nil ?_
    refine thenE_norm (h9 _ _ ?_); clear h9; try clear K9
    refine CW.ret (ret1 Try.results39 (by simp only [upd_get, ev, Nat.reduceEqDiff, ↓reduceIte]; rfl) ?_)
    obtain rfl : i = 8 := by omega
    exact ⟨_, _, rfl, (SH.give (SH.sel H [0] (by decide) rfl) (List.Sublist.refl _) (by repeat first | exact trivial | refine ⟨trivial, ?_⟩))⟩

/-! ### Tokens -/
theorem okL_iff {m : Lm} : okL m = true ↔ (nameM m.name.data.toList = true ∧ 0 ≤ m.holder ∧ m.holder < 8 ∧ 1 ≤ m.token ∧ m.token ≤ 2305843009213693952) ∧ rightM m.line = true ∧ ¬ m.holder ∈ m.line := by
  rw [okL, Bool.and_eq_true, Bool.and_eq_true, decide_eq_true_eq, Bool.not_eq_true', decide_eq_false_iff_not, and_assoc]
theorem right_iff {l : List Int} : rightM l = true ↔ ((∀ c ∈ l, clientM c = true) ∧ l.Nodup) ∧ l.length ≤ 3 := by
  rw [rightM, Bool.and_eq_true, decide_eq_true_eq, decide_eq_true_eq]; rfl
theorem right_sub {l k : List Int} (h : rightM l = true) (hs : k.Sublist l) : rightM k = true := by
  rw [right_iff] at h ⊢
  exact ⟨⟨fun c hc => h.1.1 c (hs.subset hc), List.Nodup.sublist hs h.1.2⟩, Nat.le_trans hs.length_le h.2⟩
/-- Locks as they are kept: all right, no token above the last. -/
structure OkK (ms : List Lm) (tok : Int) : Prop where
  up : UpT Lm.name ms
  all : ∀ m ∈ ms, okL m = true ∧ m.token ≤ tok
  tk : ms.Pairwise fun a b => a.token ≠ b.token
  len : ms.length ≤ 4
def freshN (tok : Int) (ms : List Lm) : Nat := (ms.filter fun m => decide (tok < m.token)).length
structure Stp (ms : List Lm) (tok : Int) (ns : List Lm) (g : Int) : Prop where
  ok : OkK ns (tok + g)
  each : ∀ m ∈ ns, tok < m.token ∨ ∃ o ∈ ms, o.name = m.name ∧ o.token = m.token ∧ o.holder = m.holder
  num : (freshN tok ns : Int) = g
  g4 : g ≤ 4
theorem OkK.nil (tok : Int) : OkK [] tok := ⟨List.Pairwise.nil, fun m h => (by cases h), List.Pairwise.nil, by decide⟩
theorem OkK.short {ms : List Lm} {tok : Int} (h : OkK ms tok) : shortL ms := fun m hm => by
  have := (right_iff.1 (okL_iff.1 (h.all m hm).1).2.1).2
  omega
theorem OkK.small {ms : List Lm} {tok : Int} (h : OkK ms tok) : smallL ms := fun m hm => by
  have := (okL_iff.1 (h.all m hm).1).1.1
  rw [nameM, Bool.and_eq_true, Bool.and_eq_true, decide_eq_true_eq, decide_eq_true_eq] at this
  have h2 : m.name.data.toList.length = m.name.size := by rw [Array.length_toList]; rfl
  omega
theorem fresh_none {tok : Int} {ms : List Lm} (h : ∀ m ∈ ms, m.token ≤ tok) : freshN tok ms = 0 := by
  rw [freshN, List.length_eq_zero_iff, List.filter_eq_nil_iff]
  intro m hm hc
  have := h m hm
  have := of_decide_eq_true hc
  omega
theorem stp_sub {ms ns : List Lm} {tok : Int} (h : OkK ms tok) (hs : ns.Sublist ms) : Stp ms tok ns 0 :=
  ⟨⟨h.up.sublist hs, fun m hm => by have := h.all m (hs.subset hm); exact ⟨this.1, by omega⟩, h.tk.sublist hs, Nat.le_trans hs.length_le h.len⟩,
    fun m hm => .inr ⟨m, hs.subset hm, rfl, rfl, rfl⟩, by rw [fresh_none fun m hm => (h.all m (hs.subset hm)).2]; rfl, by decide⟩
theorem stp_same {ms : List Lm} {tok : Int} (h : OkK ms tok) : Stp ms tok ms 0 := stp_sub h (List.Sublist.refl _)
/-- A lock is put, by the next token or by its own. -/
theorem stp_put {ms : List Lm} {tok g : Int} {m : Lm} (h : OkK ms tok) (ho : okL m = true) (hl : (putT Lm.name ms m).length ≤ 4)
    (hg : (g = 1 ∧ m.token = tok + 1) ∨ (g = 0 ∧ ∃ o ∈ ms, o.name = m.name ∧ o.token = m.token ∧ o.holder = m.holder)) : Stp ms tok (putT Lm.name ms m) g := by
  have hA : ∀ x ∈ ms.filter (fun x => ltS x.name m.name), x ∈ ms ∧ x.name ≠ m.name := fun x hx => ⟨(List.mem_filter.1 hx).1, ltS_ne (List.mem_filter.1 hx).2⟩
  have hB : ∀ x ∈ ms.filter (fun x => ltS m.name x.name), x ∈ ms ∧ x.name ≠ m.name := fun x hx => ⟨(List.mem_filter.1 hx).1, (ltS_ne (List.mem_filter.1 hx).2).symm⟩
  have hne : ∀ x ∈ ms, x.name ≠ m.name → x.token ≠ m.token := fun x hx hn e => by
    rcases hg with ⟨-, hg⟩ | ⟨-, o, hom, h1, h2, -⟩
    · have := (h.all x hx).2; omega
    · have hxo : x ≠ o := fun q => hn (by rw [q, h1])
      have hpw := h.tk
      rw [List.pairwise_iff_getElem] at hpw
      obtain ⟨i, hi, hix⟩ := List.mem_iff_getElem.1 hx
      obtain ⟨j, hj, hjo⟩ := List.mem_iff_getElem.1 hom
      rcases Nat.lt_trichotomy i j with hij | hij | hij
      · exact hpw i j hi hj hij (by rw [hix, hjo, e, h2])
      · subst hij; exact hxo (by rw [← hix, ← hjo])
      · exact hpw j i hj hi hij (by rw [hix, hjo, e, h2])
  have hmt : m.token ≤ tok + g := by
    rcases hg with ⟨h1, h2⟩ | ⟨h1, o, hom, -, h2, -⟩
    · omega
    · have := (h.all o hom).2; omega
  have h0 : 0 ≤ g := by rcases hg with ⟨h1, _⟩ | ⟨h1, _⟩ <;> omega
  refine ⟨⟨putT_up h.up, fun x hx => ?_, ?_, hl⟩, fun x hx => ?_, ?_, by rcases hg with ⟨h1, _⟩ | ⟨h1, _⟩ <;> omega⟩
  · rcases putT_mem hx with rfl | ⟨hx, _⟩
    · exact ⟨ho, hmt⟩
    · have := h.all x hx; exact ⟨this.1, by omega⟩
  · rw [putT, List.pairwise_append, List.pairwise_cons]
    refine ⟨h.tk.filter _, ⟨fun y hy => (hne y (hB y hy).1 (hB y hy).2).symm, h.tk.filter _⟩, fun x hx y hy => ?_⟩
    rcases List.mem_cons.1 hy with rfl | hy
    · exact hne x (hA x hx).1 (hA x hx).2
    · intro e
      have h1 := (List.mem_filter.1 hx).2
      have h2 := (List.mem_filter.1 hy).2
      have hxy : ltS x.name y.name = true := ltS_trans h1 h2
      have hpw := h.tk
      rw [List.pairwise_iff_getElem] at hpw
      obtain ⟨i, hi, hix⟩ := List.mem_iff_getElem.1 (hA x hx).1
      obtain ⟨j, hj, hjy⟩ := List.mem_iff_getElem.1 (hB y hy).1
      rcases Nat.lt_trichotomy i j with hij | hij | hij
      · exact hpw i j hi hj hij (by rw [hix, hjy, e])
      · subst hij; exact ltS_ne hxy (by rw [← hix, ← hjy])
      · exact hpw j i hj hi hij (by rw [hix, hjy, e])
  · rcases putT_mem hx with rfl | ⟨hx, _⟩
    · rcases hg with ⟨h1, h2⟩ | ⟨h1, h2⟩
      · exact .inl (by omega)
      · exact .inr h2
    · exact .inr ⟨x, hx, rfl, rfl, rfl⟩
  · have e : freshN tok (putT Lm.name ms m) = freshN tok [m] := by
      rw [freshN, putT, List.filter_append, List.filter_cons, List.length_append]
      have z1 : ((ms.filter fun x => ltS x.name m.name).filter fun x => decide (tok < x.token)) = [] := by
        rw [List.filter_eq_nil_iff]
        intro x hx hc
        have := (h.all x (hA x hx).1).2
        have := of_decide_eq_true hc
        omega
      have z2 : ((ms.filter fun x => ltS m.name x.name).filter fun x => decide (tok < x.token)) = [] := by
        rw [List.filter_eq_nil_iff]
        intro x hx hc
        have := (h.all x (hB x hx).1).2
        have := of_decide_eq_true hc
        omega
      rw [z1, z2, freshN, List.filter_cons, List.filter_nil]; simp
    rw [e, freshN, List.filter_cons, List.filter_nil]
    rcases hg with ⟨h1, h2⟩ | ⟨h1, o, hom, -, h2, -⟩
    · rw [if_pos (decide_eq_true (by omega)), h1]; rfl
    · have := (h.all o hom).2
      rw [if_neg (by rw [decide_eq_false (by omega)]; exact Bool.false_ne_true), h1]; rfl
theorem client_iff {c : Int} : clientM c = true ↔ 0 ≤ c ∧ c < 8 := by simp [clientM]
theorem join_code (l : List Int) (c : Int) : (joinM l c).2.2 ≠ 10 := by
  unfold joinM
  split
  · decide
  · split
    · decide
    · split
      · decide
      · show (0 : Int) ≠ 10; decide
theorem join_right {l : List Int} {c : Int} (h : rightM l = true) (hz : (joinM l c).2.2 = 0) : rightM (joinM l c).1 = true ∧ ∀ x ∈ (joinM l c).1, x ∈ l ∨ x = c := by
  unfold joinM at hz ⊢
  by_cases h1 : clientM c = false
  · rw [if_pos h1] at hz; cases hz
  rw [if_neg h1] at hz ⊢
  by_cases h2 : c ∈ l
  · rw [if_pos h2] at hz; cases hz
  rw [if_neg h2] at hz ⊢
  by_cases h3 : 3 ≤ l.length
  · rw [if_pos h3] at hz; cases hz
  rw [if_neg h3]
  rw [right_iff] at h ⊢
  refine ⟨⟨⟨fun x hx => ?_, ?_⟩, by rw [List.length_append]; simp; omega⟩, fun x hx => ?_⟩
  · rcases List.mem_append.1 hx with hx | hx
    · exact h.1.1 x hx
    · rw [List.mem_singleton] at hx; subst hx; simpa using h1
  · rw [List.nodup_append]
    exact ⟨h.1.2, by simp, fun a ha b hb e => by rw [List.mem_singleton] at hb; subst hb; subst e; exact h2 ha⟩
  · rcases List.mem_append.1 hx with hx | hx
    · exact .inl hx
    · exact .inr (by simpa using hx)
section
variable {ms : List Lm} {n : ByteArray} {c tok : Int} {wait : Bool}
theorem take_stp (h : OkK ms tok) (hn : nameM n.data.toList = true) (hc : 0 ≤ c ∧ c < 8) (t0 : 0 ≤ tok) (t1 : tok ≤ 1000000) :
    ((takeM ms n c tok wait).2.2 = 0 → Stp ms tok (takeM ms n c tok wait).1 1) ∧ ((takeM ms n c tok wait).2.2 = 10 → Stp ms tok (takeM ms n c tok wait).1 0) := by
  cases hf : ms.find? (isT Lm.name n) with
  | none =>
    by_cases h4 : 4 ≤ ms.length
    · rw [take_full hf h4]; exact ⟨fun q => (by cases q), fun q => (by cases q)⟩
    · rw [take_new hf h4]
      refine ⟨fun _ => stp_put h (okL_iff.2 ⟨⟨hn, hc.1, hc.2, by dsimp only; omega, by dsimp only; omega⟩, (by decide : rightM [] = true), by simp⟩) ?_ (.inl ⟨rfl, rfl⟩), fun q => (by cases q)⟩
      rw [putT_new_len h.up (findT_none hf)]; omega
  | some k =>
    obtain ⟨hkn, hkm⟩ := findT_key hf
    have hok := okL_iff.1 (h.all k hkm).1
    by_cases h1 : k.holder = c
    · rw [take_twice hf h1]; exact ⟨fun q => (by cases q), fun q => (by cases q)⟩
    by_cases h2 : wait = false
    · rw [take_busy hf h1 h2]; exact ⟨fun q => (by cases q), fun q => (by cases q)⟩
    by_cases h3 : c ∈ k.line
    · rw [take_in hf h1 h2 h3]; exact ⟨fun q => (by cases q), fun _ => stp_same h⟩
    by_cases h4 : (joinM k.line c).2.2 = 0
    · rw [take_join hf h1 h2 h3 (fun q => q h4)]
      obtain ⟨j1, j2⟩ := join_right hok.2.1 h4
      refine ⟨fun q => (by cases q), fun _ => stp_put h (okL_iff.2 ⟨hok.1, j1, fun q => ?_⟩) ?_ (.inr ⟨rfl, k, hkm, rfl, rfl, rfl⟩)⟩
      · rcases j2 _ q with q | q
        · exact hok.2.2 q
        · exact h1 q
      · refine Nat.le_trans (Nat.le_of_eq (putT_in_len (s := k) h.up hkm ?_)) h.len; rfl
    · rw [take_not hf h1 h2 h3 h4]
      exact ⟨fun q => absurd q h4, fun q => absurd q (join_code _ _)⟩
theorem free_stp (h : OkK ms tok) (t0 : 0 ≤ tok) (t1 : tok ≤ 1000000) : (freeM ms n c tok).2.2 = 0 → Stp ms tok (freeM ms n c tok).1 (freeM ms n c tok).2.1 := by
  cases hf : ms.find? (isT Lm.name n) with
  | none => rw [free_none hf]; exact fun q => by cases q
  | some k =>
    obtain ⟨hkn, hkm⟩ := findT_key hf
    have hok := okL_iff.1 (h.all k hkm).1
    by_cases h1 : k.holder = c
    · by_cases h2 : k.line = []
      · rw [free_gone hf h1 h2]; exact fun _ => stp_sub h List.filter_sublist
      · rw [free_next hf h1 h2]
        obtain ⟨x, r, hxr⟩ := List.exists_cons_of_ne_nil h2
        have hr := hok.2.1
        rw [hxr] at hr ⊢
        have hr2 := right_iff.1 hr
        have hx := client_iff.1 (hr2.1.1 x (by simp))
        refine fun _ => stp_put h (okL_iff.2 ⟨⟨hok.1.1, hx.1, hx.2, by dsimp only; omega, by dsimp only; omega⟩, right_sub hr (List.sublist_cons_self ..), (List.nodup_cons.1 hr2.1.2).1⟩) ?_ (.inl ⟨rfl, rfl⟩)
        refine Nat.le_trans (Nat.le_of_eq (putT_in_len (s := k) h.up hkm ?_)) h.len; rfl
    · by_cases h2 : c ∈ k.line
      · rw [free_leave hf h1 h2]
        refine fun _ => stp_put h (okL_iff.2 ⟨hok.1, right_sub hok.2.1 List.erase_sublist, fun q => hok.2.2 (List.erase_sublist.subset q)⟩) ?_ (.inr ⟨rfl, k, hkm, rfl, rfl, rfl⟩)
        refine Nat.le_trans (Nat.le_of_eq (putT_in_len (s := k) h.up hkm ?_)) h.len; rfl
      · rw [free_no hf h1 h2]; exact fun q => by cases q
end
/-- What dropping does, member by member. -/
theorem drop_all {gone : List Int} {tok : Int} (t0 : 0 ≤ tok) (t1 : tok ≤ 1000000) : ∀ (l : List Lm) (g : Int), 0 ≤ g → g + l.length ≤ 4 → (∀ m ∈ l, okL m = true ∧ m.token ≤ tok) → l.Pairwise (fun a b => a.token ≠ b.token) →
    g ≤ (dropM gone tok l g).2 ∧ (dropM gone tok l g).2 ≤ g + l.length ∧ ((dropM gone tok l g).1.map Lm.name).Sublist (l.map Lm.name) ∧
    (∀ m ∈ (dropM gone tok l g).1, okL m = true ∧ m.token ≤ tok + (dropM gone tok l g).2 ∧ (tok + g < m.token ∨ m ∈ l)) ∧ (dropM gone tok l g).1.Pairwise (fun a b => a.token ≠ b.token) ∧
    (freshN tok (dropM gone tok l g).1 : Int) + g = (dropM gone tok l g).2
  | [], g, _, _, _, _ => by
    simp only [dropM]
    exact ⟨Int.le_refl _, by simp, List.Sublist.refl _, fun m h => (by cases h), List.Pairwise.nil, by rw [fresh_none (fun m h => by cases h)]; omega⟩
  | k :: r, g, g0, g4, hl, hp => by
    obtain ⟨hp1, hp2⟩ := List.pairwise_cons.1 hp
    have hk := hl k (by simp)
    have hr : ∀ m ∈ r, okL m = true ∧ m.token ≤ tok := fun m hm => hl m (by simp [hm])
    rw [List.length_cons] at g4 ⊢
    have hok := okL_iff.1 hk.1
    rw [dropM]
    by_cases h1 : k.holder ∈ gone
    · rw [if_pos h1]
      by_cases h2 : k.line = []
      · rw [if_pos h2]
        obtain ⟨i1, i2, i3, i4, i5, i6⟩ := drop_all (gone := gone) t0 t1 r g g0 (by omega) hr hp2
        exact ⟨i1, by omega, i3.trans (List.sublist_cons_self ..), fun m hm => by have := i4 m hm; exact ⟨this.1, this.2.1, this.2.2.imp_right fun q => by simp [q]⟩, i5, i6⟩
      · rw [if_neg h2]
        obtain ⟨i1, i2, i3, i4, i5, i6⟩ := drop_all (gone := gone) t0 t1 r (g + 1) (by omega) (by omega) hr hp2
        dsimp only
        generalize hq : dropM gone tok r (g + 1) = q at *
        obtain ⟨x, t, hxt⟩ := List.exists_cons_of_ne_nil h2
        have hrt := hok.2.1
        rw [hxt] at hrt
        have hr2 := right_iff.1 hrt
        have hx := client_iff.1 (hr2.1.1 x (by simp))
        have hokn : okL ⟨k.name, k.line.headD 0, tok + g + 1, k.line.tail⟩ = true := by
          rw [hxt]
          exact okL_iff.2 ⟨⟨hok.1.1, hx.1, hx.2, by dsimp only; omega, by dsimp only; omega⟩, right_sub hrt (List.sublist_cons_self ..), (List.nodup_cons.1 hr2.1.2).1⟩
        refine ⟨by omega, by omega, by rw [List.map_cons, List.map_cons]; exact i3.cons_cons _, fun m hm => ?_, List.pairwise_cons.2 ⟨fun y hy => ?_, i5⟩, ?_⟩
        · rcases List.mem_cons.1 hm with rfl | hm
          · exact ⟨hokn, by dsimp only; omega, .inl (by dsimp only; omega)⟩
          · have := i4 m hm
            refine ⟨this.1, this.2.1, this.2.2.elim (fun q => .inl (by omega)) (fun q => .inr (by simp [q]))⟩
        · have := i4 y hy
          dsimp only
          rcases this.2.2 with q | q
          · omega
          · have := (hr y q).2; omega
        · rw [freshN, List.filter_cons, if_pos (decide_eq_true (by dsimp only; omega)), List.length_cons]
          rw [freshN] at i6
          omega
    · rw [if_neg h1]
      obtain ⟨i1, i2, i3, i4, i5, i6⟩ := drop_all (gone := gone) t0 t1 r g g0 (by omega) hr hp2
      dsimp only
      generalize hq : dropM gone tok r g = q at *
      refine ⟨by omega, by omega, by rw [List.map_cons, List.map_cons]; exact i3.cons_cons _, fun m hm => ?_, List.pairwise_cons.2 ⟨fun y hy => ?_, i5⟩, ?_⟩
      · rcases List.mem_cons.1 hm with rfl | hm
        · exact ⟨hk.1, by omega, .inr (by simp)⟩
        · have := i4 m hm
          exact ⟨this.1, this.2.1, this.2.2.imp_right fun q => by simp [q]⟩
      · have := i4 y hy
        rcases this.2.2 with q | q
        · omega
        · exact hp1 y q
      · rw [freshN, List.filter_cons, if_neg (by rw [decide_eq_false (by omega)]; exact Bool.false_ne_true)]
        rw [freshN] at i6
        exact i6
theorem upT_names {xs ys : List Lm} (h : UpT Lm.name ys) (hs : (xs.map Lm.name).Sublist (ys.map Lm.name)) : UpT Lm.name xs := by
  have h1 : (ys.map Lm.name).Pairwise (fun a b => ltS a b = true) := List.pairwise_map.2 h
  exact List.pairwise_map.1 (h1.sublist hs)
theorem wo_ok {gone : List Int} {ms : List Lm} {tok : Int} (h : OkK ms tok) : OkK (ms.map (woL gone)) tok := by
  refine ⟨upT_names h.up (by rw [List.map_map]; exact List.Sublist.refl _), fun m hm => ?_, List.pairwise_map.2 h.tk, by rw [List.length_map]; exact h.len⟩
  obtain ⟨x, hx, rfl⟩ := List.mem_map.1 hm
  have h1 := h.all x hx
  have h2 := okL_iff.1 h1.1
  exact ⟨okL_iff.2 ⟨h2.1, right_sub h2.2.1 List.filter_sublist, fun q => h2.2.2 (List.mem_filter.1 q).1⟩, h1.2⟩
theorem drop_stp {ms : List Lm} {gone : List Int} {tok : Int} (h : OkK ms tok) (t0 : 0 ≤ tok) (t1 : tok ≤ 1000000) : Stp ms tok (dropM gone tok (ms.map (woL gone)) 0).1 (dropM gone tok (ms.map (woL gone)) 0).2 := by
  have hw := wo_ok (gone := gone) h
  have hl := hw.len
  obtain ⟨i1, i2, i3, i4, i5, i6⟩ := drop_all (gone := gone) t0 t1 (ms.map (woL gone)) 0 (by omega) (by omega) hw.all hw.tk
  refine ⟨⟨upT_names hw.up i3, fun m hm => ⟨(i4 m hm).1, (i4 m hm).2.1⟩, i5, ?_⟩, fun m hm => ?_, by omega, by omega⟩
  · have := i3.length_le
    rw [List.length_map, List.length_map] at this
    omega
  · rcases (i4 m hm).2.2 with q | q
    · exact .inl (by omega)
    · obtain ⟨x, hx, rfl⟩ := List.mem_map.1 q
      exact .inr ⟨x, hx, rfl, rfl, rfl⟩
theorem pre_all {ms : List Lm} (h : ∀ i, i < ms.length → chkL ms i = true) : ∀ i, i ≤ ms.length → preL ms i = true
  | 0, _ => rfl
  | i + 1, hi => by rw [preL_succ, pre_all h i (by omega), h i (by omega)]; rfl
theorem OkK.right {ms : List Lm} {tok : Int} (h : OkK ms tok) : rightL ms = true := by
  have hl := h.len
  rw [rightL, pre_all (fun i hi => ?_) _ (Nat.le_refl _), decide_eq_true hl]
  · rfl
  · obtain ⟨m, hm⟩ := get_of_lt hi
    have hok := (h.all m (List.mem_of_getElem? hm)).1
    rcases Nat.eq_zero_or_pos i with rfl | h0
    · rw [chkL_0 hm, hok]
    · obtain ⟨p, hp⟩ := get_of_lt (show i - 1 < ms.length by omega)
      rw [chkL_s h0 hm hp, hok, h.up.at (show i - 1 < i by omega) hp hm]
      have ha : (ms.take i).any (sameTok m.token) = false := by
        rw [List.any_eq_false]
        intro o ho hs
        obtain ⟨j, hj, hjo⟩ := List.mem_take_iff_getElem.1 ho
        have hpw := h.tk
        rw [List.pairwise_iff_getElem] at hpw
        have hmi : ms[i] = m := by rw [List.getElem?_eq_getElem hi] at hm; exact Option.some.inj hm
        exact hpw j i (by omega) hi (by omega) (by rw [hjo, hmi]; exact of_decide_eq_true hs)
      rw [ha]; rfl
theorem Stp.upd {ms ns : List Lm} {tok g : Int} (h : OkK ms tok) (s : Stp ms tok ns g) {m : Lm} (hm : m ∈ ns) :
    ((findL ms m.name).2 = true ∧ (findL ms m.name).1.token = m.token ↔ ¬ tok < m.token) ∧ ((findL ms m.name).2 = true ∧ (findL ms m.name).1.token = m.token → (findL ms m.name).1.holder = m.holder) := by
  have hold : ∀ o ∈ ms, o.name = m.name → findL ms m.name = (o, true) := fun o ho hn => by
    have := upT_find (k := Lm.name) h.up ho
    rw [hn] at this
    exact findL_some this
  cases hf : ms.find? (isT Lm.name m.name) with
  | none =>
    rw [findL_none hf]
    refine ⟨⟨fun q => (by cases q.1), fun q => ?_⟩, fun q => by cases q.1⟩
    rcases s.each m hm with h1 | ⟨o, ho, h1, _⟩
    · exact absurd h1 q
    · exact absurd h1 (findT_none hf o ho)
  | some k =>
    rw [findL_some hf]
    obtain ⟨hk1, hk2⟩ := findT_key hf
    have hkt := (h.all k hk2).2
    rcases s.each m hm with h1 | ⟨o, ho, h1, h2, h3⟩
    · exact ⟨⟨fun q => by have := q.2; dsimp only at this; omega, fun q => absurd h1 q⟩, fun q => by have := q.2; dsimp only at this; omega⟩
    · have hko : k = o := h.up.inj hk2 ho (by rw [hk1, h1])
      subst hko
      exact ⟨⟨fun _ => by omega, fun _ => ⟨rfl, h2⟩⟩, fun _ => h3⟩
theorem fresh_snoc {tok : Int} {ms : List Lm} {i : Nat} {m : Lm} (h : ms[i]? = some m) : freshN tok (ms.take (i + 1)) = freshN tok (ms.take i) + (if tok < m.token then 1 else 0) := by
  rw [freshN, freshN, V.take_snoc h, List.filter_append, List.length_append, List.filter_cons, List.filter_nil]
  by_cases hc : tok < m.token
  · rw [if_pos hc, if_pos (decide_eq_true hc)]; rfl
  · rw [if_neg hc, if_neg (by rw [decide_eq_false hc]; exact Bool.false_ne_true)]; rfl
theorem fresh_le (tok : Int) (ms : List Lm) : freshN tok ms ≤ ms.length := List.length_filter_le _ _
end Go.Proofs.Ytaggdlbjgjagbaa
