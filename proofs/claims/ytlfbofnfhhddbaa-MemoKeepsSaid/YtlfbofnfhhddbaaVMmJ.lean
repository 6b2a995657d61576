/-
  The walks of layer 9's laws, the fourth part: MemoKeeps.
-/
import Derived.Test.YtlfbofnfhhddbaaVMmI
import Derived.Test.YtlfbofnfhhddbaaVArr
namespace Go.Proofs.Ytlfbofnfhhddbaa
set_option linter.unusedSimpArgs false
set_option linter.unusedVariables false
set_option maxRecDepth 20000
open Go.V Go.RowKit Go.ChangeShapes Go.WideShapes

theorem flat_part {α : Type} [Row α] {xs : List α} {i : Nat} {x : α} (h : xs[i]? = some x) (o n : Nat) (ho : o + n ≤ Row.sz α) : ((flat xs).drop (i * Row.sz α + o)).take n = ((Row.cells x).drop o).take n := by
  refine List.ext_getElem? fun j => ?_
  rw [List.getElem?_take, List.getElem?_take]
  split
  · rw [List.getElem?_drop, List.getElem?_drop, Nat.add_assoc, flat_get h (o + j) (by omega)]
  · rfl
/-- The newest answer of each client, beside what is kept. -/
def NwOk (ms ns : List Mm) : Prop := ns.length = 8 ∧ ∀ c : Nat, c < 8 → ∃ n, ns[c]? = some n ∧ ((n.seq = 0 ∧ ms.find? (isK Mm.client c) = none) ∨ (ms.find? (isK Mm.client c) = some n ∧ 1 ≤ n.seq))
def zA : Ans := ⟨0, 0, ⟨0, 0, 0, .slice none 0 0⟩⟩
def zM : Mm := ⟨0, 0, 0, 0, 0, []⟩
theorem nw_0 : NwOk [] (List.replicate 8 zM) := ⟨rfl, fun c hc => ⟨zM, by rw [List.getElem?_replicate, if_pos hc], .inl ⟨rfl, rfl⟩⟩⟩
theorem nw_fresh {ms ns : List Mm} {n : Mm} {c : Nat} {q : Int} (hq : 1 ≤ q) (h : (n.seq = 0 ∧ ms.find? (isK Mm.client c) = none) ∨ (ms.find? (isK Mm.client c) = some n ∧ 1 ≤ n.seq)) : freshN ms c q = if n.seq = q then 0 else if q < n.seq then -1 else 1 := by
  rcases h with ⟨h1, h2⟩ | ⟨h1, h2⟩
  · rw [fresh_none h2, if_neg (by omega), if_neg (by omega)]
  · rw [fresh_some h1]
    by_cases a : n.seq = q
    · rw [if_neg (by omega), if_pos a, if_pos a]
    · by_cases b : q < n.seq
      · rw [if_neg (by omega), if_neg a, if_neg a, if_pos b]
      · rw [if_pos (by omega), if_neg a, if_neg b]
theorem nw_put {ms ns : List Mm} {M : Mm} {k : Nat} (h : NwOk ms ns) (hk : k < 8) (hm : mayN M = true) (hc : M.client = k) (hf : freshN ms M.client M.seq = 1) : NwOk (keepN ms M) (ns.set k M) := by
  obtain ⟨h1, h2⟩ := h
  refine ⟨by rw [List.length_set]; exact h1, fun c hc8 => ?_⟩
  by_cases hck : c = k
  · subst hck
    refine ⟨M, List.getElem?_set_self (by omega), .inr ⟨?_, (may_len hm).2.2.2.1⟩⟩
    rw [← hc]; exact keep_same hm hf
  · obtain ⟨n, hn, hor⟩ := h2 c hc8
    refine ⟨n, by rw [List.getElem?_set, if_neg (by omega)]; exact hn, ?_⟩
    rw [keep_other (show (c : Int) ≠ M.client by rw [hc]; omega)]
    exact hor
theorem nw_old {ms ns : List Mm} {M : Mm} (h : NwOk ms ns) (hf : freshN ms M.client M.seq ≠ 1) : NwOk (keepN ms M) ns := by rw [keep_old hf]; exact h
theorem addNw {U G : Nat → Prop} {w0 w : World} {L : List Ch} (H : SH U G w0 w L) : SH U G w0 w (L ++ [.P Non (MmsA Non ((List.replicate 8 zA).map memA) (List.replicate 8 zM))]) :=
  H.call ⟨Ext.refl _ _, Val.one ⟨by
    have hz : MmR Non w (memA zA) zM := ⟨rfl, rfl, rfl, rfl, rfl, Rs.nil⟩
    exact ⟨hz, hz, hz, hz, hz, hz, hz, hz, trivial⟩, mms_st, fun b h => h.elim, fun _ b h => h.elim, fun b h => h.elim⟩⟩
set_option maxHeartbeats 16000000 in
theorem MemoKeeps_c {F : Nat → Prop} {v : Value} {acts : List Act9} (w : World) (hv : Rs F w v acts) (hg : ∀ a ∈ acts, ∃ xs : List UInt8, Rs (Old w) w a.ns xs) :
    Calls Try.prog 16 #[v] w fun e w' => e = .returned (.bool true) ∧ Ext0 w w' := by
  have H := (SH.start w).arg hv
  have h63 := hv.len63
  refine calls_of_CW Try.func16 rfl Try.ntmps16 (Nat.le_of_ble_eq_true rfl) ?_
  simp only [argE, argFrom, Nat.reduceAdd]
  refine CW.seq (fun K1 h1 => ?_)
  refine CW.region ?_
  refine r_assign rfl ?_
  refine LW.nil ?_
  refine thenE_norm (h1 _ _ ?_); clear h1; try clear K1
  refine CW.seq (fun K2 h2 => ?_)
  refine CW.seq (fun K3 h3 => ?_)
  refine CW.region ?_
  refine r_move rfl ?_
  first
    | refine r_lenV rfl Try.underlying96 (by simp only [upd_get, ev, Nat.reduceEqDiff, ↓reduceIte] <;> rfl) (by first | assumption | exact SH.rsR H (by (repeat first | exact At.here | apply At.there); done) | exact SH.rsO H (by (repeat first | exact At.here | apply At.there); done) | exact (Rs.nil : Rs Non _ _ _)) ?_
    | refine r_len rfl Try.underlying96 rfl ?_
  refine r_gtr rfl rfl rfl ?_
  refine LW.nil ?_
  refine thenE_norm (h3 _ _ ?_); clear h3; try clear K3
  refine CW.cond rfl (fun hc1 => ?_) (fun hc1 => ?_)
  · try simp only [decide_eq_true_eq, decide_eq_false_iff_not, Bool.and_eq_true, Bool.or_eq_true, Bool.and_eq_false_iff, Bool.or_eq_false_iff, Bool.not_eq_true', Bool.not_eq_false', beq_iff_eq, bne_iff_ne, ne_eq, Decidable.not_not] at hc1
    refine CW.seq (fun K4 h4 => ?_)
    refine CW.region ?_
    refine r_call rfl Try.call59 (by simp only [List.map_cons, List.map_nil, List.map_toArray, List.toList_toArray, upd_get, ev, Nat.reduceEqDiff, ↓reduceIte] <;> rfl) (awake9_c _) ?_
    rintro _ w2_0 ⟨rfl, X⟩
    refine ⟨_, rfl, ?_⟩
    replace H := SH.same H X
    clear X
    refine r_assign rfl ?_
    refine LW.nil ?_
    refine thenE_norm (h4 _ _ ?_); clear h4; try clear K4
    refine CW.ret (thenE_ret (ret1 Try.results16 (by simp only [upd_get, ev, Nat.reduceEqDiff, ↓reduceIte]; rfl) ?_))
    exact ⟨rfl, H.ext⟩
  · try simp only [decide_eq_true_eq, decide_eq_false_iff_not, Bool.and_eq_true, Bool.or_eq_true, Bool.and_eq_false_iff, Bool.or_eq_false_iff, Bool.not_eq_true', Bool.not_eq_false', beq_iff_eq, bne_iff_ne, ne_eq, Decidable.not_not] at hc1
    refine CW.skip ?_
    refine thenE_norm (h2 _ _ ?_); clear h2; try clear K2
    refine CW.seq (fun K5 h5 => ?_)
    refine CW.region ?_
    refine r_assign rfl ?_
    refine LW.nil ?_
    refine thenE_norm (h5 _ _ ?_); clear h5; try clear K5
    refine CW.seq (fun K6 h6 => ?_)
    refine CW.region ?_
    refine s_alloc (cs := [.int .i64 0, .int .i64 0, .int .i64 0, .int .i64 0, .int .i64 0, .slice none 0 0, .int .i64 0, .int .i64 0, .int .i64 0, .int .i64 0, .int .i64 0, .slice none 0 0, .int .i64 0, .int .i64 0, .int .i64 0, .int .i64 0, .int .i64 0, .slice none 0 0, .int .i64 0, .int .i64 0, .int .i64 0, .int .i64 0, .int .i64 0, .slice none 0 0, .int .i64 0, .int .i64 0, .int .i64 0, .int .i64 0, .int .i64 0, .slice none 0 0, .int .i64 0, .int .i64 0, .int .i64 0, .int .i64 0, .int .i64 0, .slice none 0 0, .int .i64 0, .int .i64 0, .int .i64 0, .int .i64 0, .int .i64 0, .slice none 0 0, .int .i64 0, .int .i64 0, .int .i64 0, .int .i64 0, .int .i64 0, .slice none 0 0]) H rfl Try.zeroValue97 rfl ?_
    clear H
    intro b4_0 w4_0 H
    try dsimp only [replC, List.cons_append, List.nil_append, List.append_nil, agg, cellsL, Value.cells, List.toList_toArray, List.set_cons_zero, List.set_cons_succ, spliceL, List.take_succ_cons, List.take_zero, List.drop_succ_cons, List.drop_zero, List.length_cons, List.length_nil, Nat.reduceAdd, Row.cells, Gr.L, Rep.L, Mem.L, Ans.L, Act9.L] at H
    refine LW.nil ?_
    refine thenE_norm (h6 _ _ ?_); clear h6; try clear K6
    refine CW.seq (fun K7 h7 => ?_)
    refine CW.seq (fun K8 h8 => ?_)
    refine CW.region ?_
    refine r_assign rfl ?_
    refine LW.nil ?_
    refine thenE_norm (h8 _ _ ?_); clear h8; try clear K8
    refine CW.block ?_
    refine CW.loopR [0, 4] [3, 5] (fun m vs w' => ∃ (i : Nat) (u : Value) (raws : List Mem) (ms : List Mm) (g : Option Nat) (FP : Nat → Prop) (nw : List Ans) (ns : List Mm) (FQ : Nat → Prop), vs = [u, .int .i64 i] ∧ i ≤ acts.length ∧ m = acts.length - i ∧ ms.length ≤ i ∧ rightN ms = true ∧ NwOk ms ns ∧ SH Non Any w w' [.R (Old w) v acts, .B b4_0 97 (flat nw), .O 80 u raws g, .P FP (MmsA FP raws ms), .P FQ (MmsA FQ (nw.map memA) ns)]) (acts.length) ?_ ?_
    · exact ⟨0, .slice none 0 0, [], [], none, _, List.replicate 8 zA, List.replicate 8 zM, _, rfl, by omega, by omega, by simp, rfl, nw_0, addNw (addMs (H.addO (α := Mem) 80))⟩
    try clear H
    rintro n1 vs1 wL1 σ ⟨i, u, raws, ms, g, FP, nw, ns, FQ, rfl, hi, rfl, hml, hr, hnw, H⟩
    simp only [setL, keepE, upd_get, ev, Nat.reduceEqDiff, ↓reduceIte]
    have l1 := All2.len (SH.prop H (i := 3) rfl)
    refine CW.seq (fun K9 h9 => ?_)
    refine CW.seq (fun K10 h10 => ?_)
    refine CW.region ?_
    refine r_move rfl ?_
    refine r_move rfl ?_
    first
      | refine r_lenV rfl Try.underlying96 (by simp only [upd_get, ev, Nat.reduceEqDiff, ↓reduceIte] <;> rfl) (by first | assumption | exact SH.rsR H (by (repeat first | exact At.here | apply At.there); done) | exact SH.rsO H (by (repeat first | exact At.here | apply At.there); done) | exact (Rs.nil : Rs Non _ _ _)) ?_
      | refine r_len rfl Try.underlying96 rfl ?_
    refine r_lss rfl rfl rfl ?_
    refine LW.nil ?_
    refine thenE_norm (h10 _ _ ?_); clear h10; try clear K10
    refine CW.cond rfl (fun hc2 => ?_) (fun hc2 => ?_)
    · try simp only [decide_eq_true_eq, decide_eq_false_iff_not, Bool.and_eq_true, Bool.or_eq_true, Bool.and_eq_false_iff, Bool.or_eq_false_iff, Bool.not_eq_true', Bool.not_eq_false', beq_iff_eq, bne_iff_ne, ne_eq, Decidable.not_not] at hc2
      refine CW.skip ?_
      refine thenE_norm (h9 _ _ ?_); clear h9; try clear K9
      refine CW.seq (fun K11 h11 => ?_)
      refine CW.block ?_
      refine CW.seqJ [0, 3, 4, 5] [6] (fun vs w' => ∃ (k : Nat) (q : Int) (b : Nat) (x y z : Int) (av : Value) (gs : List Gr) (ag : Option Nat), vs = [.pointer (some ⟨b, 0, none⟩)] ∧ k < 8 ∧ 1 ≤ q ∧ q ≤ 40 ∧ mayRep x y z gs = true ∧ smallG gs ∧ SH Non Any w w' [.R (Old w) v acts, .B b4_0 97 (flat nw), .O 80 u raws g, .P FP (MmsA FP raws ms), .P FQ (MmsA FQ (nw.map memA) ns), .B b 66 [.int .i64 k, .int .i64 q, .int .i64 x, .int .i64 y, .int .i64 z, av], .O 61 av gs ag]) ?_ ?_
      · obtain ⟨x, hx⟩ := get_of_lt (show i < acts.length by omega)
        obtain ⟨xs, hxs⟩ := hg x (List.mem_of_getElem? hx)
        obtain ⟨x1, x2, x3⟩ := x
        dsimp only at hxs
        have hb1 := x1.toNat_lt
        have hb2 := x2.toNat_lt
        have e8 : (x1.toNat : Int) % 8 = ((x1.toNat % 8 : Nat) : Int) := by omega
        refine CW.drawP [0] [17] H (by dsimp only [pickC, nthC] <;> rfl) (by repeat first | exact List.Sublist.refl _ | exact List.nil_sublist _ | apply List.Sublist.cons_cons | apply List.Sublist.cons) (by kernel_rfl) rfl ?_
        clear H
        intro w8d H
        refine DL.take (i := 0) [0, 2, 3, 4, 15, 17] rfl (by kernel_rfl) (by kernel_rfl) (by kernel_rfl) (by kernel_rfl) rfl rfl (fun u H => x_move ) (SH.sub H (by repeat first | exact List.Sublist.refl _ | exact List.nil_sublist _ | apply List.Sublist.cons_cons | apply List.Sublist.cons)) ?_
        refine DL.take (i := 1) [1, 2, 3, 4, 15, 17] rfl (by kernel_rfl) (by kernel_rfl) (by kernel_rfl) (by kernel_rfl) rfl rfl (fun u H => x_move ) (SH.sub H (by repeat first | exact List.Sublist.refl _ | exact List.nil_sublist _ | apply List.Sublist.cons_cons | apply List.Sublist.cons)) ?_
        refine DL.take (i := 2) [2, 3, 4, 15, 17] rfl (by kernel_rfl) (by kernel_rfl) (by kernel_rfl) (by kernel_rfl) rfl rfl (fun u H => x_indexAddrV Try.underlying96 (by simp only [upd_get, ev, Nat.reduceEqDiff, ↓reduceIte] <;> rfl) rfl (by first | assumption | exact SH.rsR H (by (repeat first | exact At.here | apply At.there); done) | exact SH.rsO H (by (repeat first | exact At.here | apply At.there); done) | exact (Rs.nil : Rs Non _ _ _)) (by exact Try.sizeOf99) (by omega) (by omega)) (SH.sub H (by repeat first | exact List.Sublist.refl _ | exact List.nil_sublist _ | apply List.Sublist.cons_cons | apply List.Sublist.cons)) ?_
        refine DL.take (i := 3) [3, 4, 15, 17] rfl (by kernel_rfl) (by kernel_rfl) (by kernel_rfl) (by kernel_rfl) rfl rfl (fun u H => x_fieldAddrO Try.underlying99 rfl Try.sizeOf5 (by decide) (show _ + 0 = _ from rfl) rfl) (SH.sub H (by repeat first | exact List.Sublist.refl _ | exact List.nil_sublist _ | apply List.Sublist.cons_cons | apply List.Sublist.cons)) ?_
        refine DL.take (i := 4) [4, 15, 17] rfl (by kernel_rfl) (by kernel_rfl) (by kernel_rfl) (by kernel_rfl) rfl rfl (fun u H => x_load Try.isAgg5 rfl (by first | exact Rs.cell (by first | assumption | exact SH.rsR H (by (repeat first | exact At.here | apply At.there); done) | exact SH.rsO H (by (repeat first | exact At.here | apply At.there); done) | exact (Rs.nil : Rs Non _ _ _)) (by assumption) (by rfl) | exact Rs.cell0 (by first | assumption | exact SH.rsR H (by (repeat first | exact At.here | apply At.there); done) | exact SH.rsO H (by (repeat first | exact At.here | apply At.there); done) | exact (Rs.nil : Rs Non _ _ _)) (by assumption) (by rfl) | assumption)) (SH.sub H (by repeat first | exact List.Sublist.refl _ | exact List.nil_sublist _ | apply List.Sublist.cons_cons | apply List.Sublist.cons)) ?_
        refine DL.take (i := 5) [5, 7, 8, 9, 15, 17] rfl (by kernel_rfl) (by kernel_rfl) (by kernel_rfl) (by kernel_rfl) rfl rfl (fun u H => x_move ) (SH.sub H (by repeat first | exact List.Sublist.refl _ | exact List.nil_sublist _ | apply List.Sublist.cons_cons | apply List.Sublist.cons)) ?_
        refine DL.take (i := 6) [6, 7, 8, 9, 15, 17] rfl (by kernel_rfl) (by kernel_rfl) (by kernel_rfl) (by kernel_rfl) rfl rfl (fun u H => x_move ) (SH.sub H (by repeat first | exact List.Sublist.refl _ | exact List.nil_sublist _ | apply List.Sublist.cons_cons | apply List.Sublist.cons)) ?_
        refine DL.take (i := 7) [7, 8, 9, 15, 17] rfl (by kernel_rfl) (by kernel_rfl) (by kernel_rfl) (by kernel_rfl) rfl rfl (fun u H => x_indexAddrV Try.underlying96 (by simp only [upd_get, ev, Nat.reduceEqDiff, ↓reduceIte] <;> rfl) rfl (by first | assumption | exact SH.rsR H (by (repeat first | exact At.here | apply At.there); done) | exact SH.rsO H (by (repeat first | exact At.here | apply At.there); done) | exact (Rs.nil : Rs Non _ _ _)) (by exact Try.sizeOf99) (by omega) (by omega)) (SH.sub H (by repeat first | exact List.Sublist.refl _ | exact List.nil_sublist _ | apply List.Sublist.cons_cons | apply List.Sublist.cons)) ?_
        refine DL.take (i := 8) [8, 9, 15, 17] rfl (by kernel_rfl) (by kernel_rfl) (by kernel_rfl) (by kernel_rfl) rfl rfl (fun u H => x_fieldAddrO Try.underlying99 rfl Try.sizeOf5 (by decide) (show _ + 1 = _ from rfl) rfl) (SH.sub H (by repeat first | exact List.Sublist.refl _ | exact List.nil_sublist _ | apply List.Sublist.cons_cons | apply List.Sublist.cons)) ?_
        refine DL.take (i := 9) [9, 15, 17] rfl (by kernel_rfl) (by kernel_rfl) (by kernel_rfl) (by kernel_rfl) rfl rfl (fun u H => x_load Try.isAgg5 rfl (by first | exact Rs.cell (o := 1) (by first | assumption | exact SH.rsR H (by (repeat first | exact At.here | apply At.there); done) | exact SH.rsO H (by (repeat first | exact At.here | apply At.there); done) | exact (Rs.nil : Rs Non _ _ _)) (by assumption) (by rfl) | exact Rs.cell0 (by first | assumption | exact SH.rsR H (by (repeat first | exact At.here | apply At.there); done) | exact SH.rsO H (by (repeat first | exact At.here | apply At.there); done) | exact (Rs.nil : Rs Non _ _ _)) (by assumption) (by rfl) | assumption)) (SH.sub H (by repeat first | exact List.Sublist.refl _ | exact List.nil_sublist _ | apply List.Sublist.cons_cons | apply List.Sublist.cons)) ?_
        refine DL.take (i := 10) [10, 12, 13, 14, 15, 17] rfl (by kernel_rfl) (by kernel_rfl) (by kernel_rfl) (by kernel_rfl) rfl rfl (fun u H => x_move ) (SH.sub H (by repeat first | exact List.Sublist.refl _ | exact List.nil_sublist _ | apply List.Sublist.cons_cons | apply List.Sublist.cons)) ?_
        refine DL.take (i := 11) [11, 12, 13, 14, 15, 17] rfl (by kernel_rfl) (by kernel_rfl) (by kernel_rfl) (by kernel_rfl) rfl rfl (fun u H => x_move ) (SH.sub H (by repeat first | exact List.Sublist.refl _ | exact List.nil_sublist _ | apply List.Sublist.cons_cons | apply List.Sublist.cons)) ?_
        refine DL.take (i := 12) [12, 13, 14, 15, 17] rfl (by kernel_rfl) (by kernel_rfl) (by kernel_rfl) (by kernel_rfl) rfl rfl (fun u H => x_indexAddrV Try.underlying96 (by simp only [upd_get, ev, Nat.reduceEqDiff, ↓reduceIte] <;> rfl) rfl (by first | assumption | exact SH.rsR H (by (repeat first | exact At.here | apply At.there); done) | exact SH.rsO H (by (repeat first | exact At.here | apply At.there); done) | exact (Rs.nil : Rs Non _ _ _)) (by exact Try.sizeOf99) (by omega) (by omega)) (SH.sub H (by repeat first | exact List.Sublist.refl _ | exact List.nil_sublist _ | apply List.Sublist.cons_cons | apply List.Sublist.cons)) ?_
        refine DL.take (i := 13) [13, 14, 15, 17] rfl (by kernel_rfl) (by kernel_rfl) (by kernel_rfl) (by kernel_rfl) rfl rfl (fun u H => x_fieldAddrO Try.underlying99 rfl Try.sizeOf43 (by decide) (show _ + 2 = _ from rfl) rfl) (SH.sub H (by repeat first | exact List.Sublist.refl _ | exact List.nil_sublist _ | apply List.Sublist.cons_cons | apply List.Sublist.cons)) ?_
        refine DL.take (i := 14) [14, 15, 17] rfl (by kernel_rfl) (by kernel_rfl) (by kernel_rfl) (by kernel_rfl) rfl rfl (fun u H => x_load Try.isAgg43 rfl (by first | exact Rs.cell (o := 2) (by first | assumption | exact SH.rsR H (by (repeat first | exact At.here | apply At.there); done) | exact SH.rsO H (by (repeat first | exact At.here | apply At.there); done) | exact (Rs.nil : Rs Non _ _ _)) (by assumption) (by rfl) | exact Rs.cell0 (by first | assumption | exact SH.rsR H (by (repeat first | exact At.here | apply At.there); done) | exact SH.rsO H (by (repeat first | exact At.here | apply At.there); done) | exact (Rs.nil : Rs Non _ _ _)) (by assumption) (by rfl) | assumption)) (SH.sub H (by repeat first | exact List.Sublist.refl _ | exact List.nil_sublist _ | apply List.Sublist.cons_cons | apply List.Sublist.cons)) ?_
        refine DL.two (i := 15) (j := 16) (by kernel_rfl) ?_ ?_
        · refine LOp.of rfl rfl ?_
          refine r_call rfl Try.call62 (by simp only [List.map_cons, List.map_nil, List.map_toArray, List.toList_toArray, upd_get, ev, Nat.reduceEqDiff, ↓reduceIte] <;> rfl) (Answer_c x1.toNat x2.toNat _ (hxs.up0 (SH.ext H)) (by omega) (by omega) (by omega) (by omega)) ?_
          rintro _ w8_15 ⟨c8_15, s8_15, a8_15, v8_15, gs8_15, g8_15, rfl, hm8_15, hsm8_15, K⟩
          refine ⟨_, rfl, ?_⟩
          replace H := SH.call H K
          clear K
          try dsimp only [replC, List.cons_append, List.nil_append, List.append_nil] at H
          refine LW.nil (thenE_norm ⟨fun _ => (SH.sub H (by repeat first | exact List.Sublist.refl _ | exact List.nil_sublist _ | apply List.Sublist.cons_cons | apply List.Sublist.cons)), ?_⟩)
          refine DL.one (i := 16) (by kernel_rfl) rfl rfl ?_
          refine s_alloc (cs := [.int .i64 0, .int .i64 0, .int .i64 0, .int .i64 0, .int .i64 0, .slice none 0 0]) H rfl Try.zeroValue66 rfl ?_
          clear H
          intro b8_16 w8_16 H
          try dsimp only [replC, List.cons_append, List.nil_append, List.append_nil, agg, cellsL, Value.cells, List.toList_toArray, List.set_cons_zero, List.set_cons_succ, spliceL, List.take_succ_cons, List.take_zero, List.drop_succ_cons, List.drop_zero, List.length_cons, List.length_nil, Nat.reduceAdd, Row.cells, Gr.L, Rep.L, Mem.L, Ans.L, Act9.L] at H
          refine LW.nil (thenE_norm ⟨fun _ => (SH.sub H (by repeat first | exact List.Sublist.refl _ | exact List.nil_sublist _ | apply List.Sublist.cons_cons | apply List.Sublist.cons)), ?_⟩)
          refine DL.one (i := 17) (by kernel_rfl) rfl rfl ?_
          refine s_storeA H Try.sizeOf66 rfl (by simp only [upd_get, ev, Nat.reduceEqDiff, ↓reduceIte] <;> rfl) (by simp only [cellsL, agg, List.toList_toArray, Row.cells, Gr.L, Rep.L, Mem.L, Ans.L, Act9.L] <;> rfl) (by rfl) (by first | rfl | assumption | exact Rs.oneC (by first | assumption | exact SH.rsR H (by (repeat first | exact At.here | apply At.there); done) | exact SH.rsO H (by (repeat first | exact At.here | apply At.there); done) | exact (Rs.nil : Rs Non _ _ _)) | (simp only [List.all_cons, List.all_nil, Bool.and_true, Bool.and_eq_true, Row.cells, Gr.L, Rep.L, Mem.L, Ans.L, Act9.L]; (repeat' constructor) <;> first | rfl | assumption | exact Rs.oneC (by first | assumption | exact SH.rsR H (by (repeat first | exact At.here | apply At.there); done) | exact SH.rsO H (by (repeat first | exact At.here | apply At.there); done) | exact (Rs.nil : Rs Non _ _ _)))) (by (repeat first | exact At.here | apply At.there); done) (by first | (simp; done) | decide | (show _ ≤ _; decide)) ?_
          clear H
          intro w8_17 H
          try dsimp only [replC, List.cons_append, List.nil_append, List.append_nil, agg, cellsL, Value.cells, List.toList_toArray, List.set_cons_zero, List.set_cons_succ, spliceL, List.take_succ_cons, List.take_zero, List.drop_succ_cons, List.drop_zero, List.length_cons, List.length_nil, Nat.reduceAdd, Row.cells, Gr.L, Rep.L, Mem.L, Ans.L, Act9.L] at H
          refine LW.nil (thenE_norm ⟨fun h => Bool.noConfusion (show true = false from h), ?_⟩)
          refine DL.done (by kernel_rfl) ?_
          refine thenE_norm ?_
          rw [e8] at H
          first
            | exact ⟨rfl, x1.toNat % 8, 1 + (x2.toNat : Int) % 40, _, _, _, _, _, _, _, rfl, by omega, by omega, by omega, hm8_15, hsm8_15, SH.sel H [0, 1, 2, 3, 4, 6, 5] (by decide) rfl⟩
            | exact ⟨rfl, x1.toNat % 8, 1 + (x2.toNat : Int) % 40, _, _, _, _, _, _, _, rfl, by omega, by omega, by omega, hm8_15, hsm8_15, SH.sel H [0, 1, 2, 3, 4, 5, 6] (by decide) rfl⟩
        · refine LOp.of rfl rfl ?_
          refine s_alloc (cs := [.int .i64 0, .int .i64 0, .int .i64 0, .int .i64 0, .int .i64 0, .slice none 0 0]) H rfl Try.zeroValue66 rfl ?_
          clear H
          intro b8_16 w8_16 H
          try dsimp only [replC, List.cons_append, List.nil_append, List.append_nil, agg, cellsL, Value.cells, List.toList_toArray, List.set_cons_zero, List.set_cons_succ, spliceL, List.take_succ_cons, List.take_zero, List.drop_succ_cons, List.drop_zero, List.length_cons, List.length_nil, Nat.reduceAdd, Row.cells, Gr.L, Rep.L, Mem.L, Ans.L, Act9.L] at H
          refine LW.nil (thenE_norm ⟨fun _ => (SH.sub H (by repeat first | exact List.Sublist.refl _ | exact List.nil_sublist _ | apply List.Sublist.cons_cons | apply List.Sublist.cons)), ?_⟩)
          refine DL.one (i := 15) (by kernel_rfl) rfl rfl ?_
          refine r_call rfl Try.call62 (by simp only [List.map_cons, List.map_nil, List.map_toArray, List.toList_toArray, upd_get, ev, Nat.reduceEqDiff, ↓reduceIte] <;> rfl) (Answer_c x1.toNat x2.toNat _ (hxs.up0 (SH.ext H)) (by omega) (by omega) (by omega) (by omega)) ?_
          rintro _ w8_15 ⟨c8_15, s8_15, a8_15, v8_15, gs8_15, g8_15, rfl, hm8_15, hsm8_15, K⟩
          refine ⟨_, rfl, ?_⟩
          replace H := SH.call H K
          clear K
          try dsimp only [replC, List.cons_append, List.nil_append, List.append_nil] at H
          refine LW.nil (thenE_norm ⟨fun _ => (SH.sub H (by repeat first | exact List.Sublist.refl _ | exact List.nil_sublist _ | apply List.Sublist.cons_cons | apply List.Sublist.cons)), ?_⟩)
          refine DL.one (i := 17) (by kernel_rfl) rfl rfl ?_
          refine s_storeA H Try.sizeOf66 rfl (by simp only [upd_get, ev, Nat.reduceEqDiff, ↓reduceIte] <;> rfl) (by simp only [cellsL, agg, List.toList_toArray, Row.cells, Gr.L, Rep.L, Mem.L, Ans.L, Act9.L] <;> rfl) (by rfl) (by first | rfl | assumption | exact Rs.oneC (by first | assumption | exact SH.rsR H (by (repeat first | exact At.here | apply At.there); done) | exact SH.rsO H (by (repeat first | exact At.here | apply At.there); done) | exact (Rs.nil : Rs Non _ _ _)) | (simp only [List.all_cons, List.all_nil, Bool.and_true, Bool.and_eq_true, Row.cells, Gr.L, Rep.L, Mem.L, Ans.L, Act9.L]; (repeat' constructor) <;> first | rfl | assumption | exact Rs.oneC (by first | assumption | exact SH.rsR H (by (repeat first | exact At.here | apply At.there); done) | exact SH.rsO H (by (repeat first | exact At.here | apply At.there); done) | exact (Rs.nil : Rs Non _ _ _)))) (by (repeat first | exact At.here | apply At.there); done) (by first | (simp; done) | decide | (show _ ≤ _; decide)) ?_
          clear H
          intro w8_17 H
          try dsimp only [replC, List.cons_append, List.nil_append, List.append_nil, agg, cellsL, Value.cells, List.toList_toArray, List.set_cons_zero, List.set_cons_succ, spliceL, List.take_succ_cons, List.take_zero, List.drop_succ_cons, List.drop_zero, List.length_cons, List.length_nil, Nat.reduceAdd, Row.cells, Gr.L, Rep.L, Mem.L, Ans.L, Act9.L] at H
          refine LW.nil (thenE_norm ⟨fun h => Bool.noConfusion (show true = false from h), ?_⟩)
          refine DL.done (by kernel_rfl) ?_
          refine thenE_norm ?_
          rw [e8] at H
          first
            | exact ⟨rfl, x1.toNat % 8, 1 + (x2.toNat : Int) % 40, _, _, _, _, _, _, _, rfl, by omega, by omega, by omega, hm8_15, hsm8_15, SH.sel H [0, 1, 2, 3, 4, 6, 5] (by decide) rfl⟩
            | exact ⟨rfl, x1.toNat % 8, 1 + (x2.toNat : Int) % 40, _, _, _, _, _, _, _, rfl, by omega, by omega, by omega, hm8_15, hsm8_15, SH.sel H [0, 1, 2, 3, 4, 5, 6] (by decide) rfl⟩
      try clear H
      rintro vs wJ σ ⟨k, q, b, x, y, z, av, gs, ag, rfl, hk8, hq1, hq40, hmr, hsm, H⟩
      simp only [setL, keepE, upd_get, ev, Nat.reduceEqDiff, ↓reduceIte]
      obtain ⟨n, hn, hor⟩ := hnw.2 k hk8
      obtain ⟨r, hr', hrn⟩ := All2.get' (SH.prop H (i := 4) rfl) hn
      rw [List.getElem?_map, Option.map_eq_some_iff] at hr'
      obtain ⟨r, hrk, rfl⟩ := hr'
      obtain ⟨r1, r2, ⟨r3, r4, r5, r6⟩⟩ := r
      have hfr := nw_fresh (ns := ns) hq1 hor
      have e2 : r2 = n.seq := hrn.2.1
      have hc1 : (flat nw)[0 + ((k : Nat) : Int).toNat * 6 + 1]? = some (.int .i64 n.seq) := by
        rw [Int.toNat_natCast, Nat.zero_add, ← e2]
        exact flat_get hrk 1 (by decide)
      have hmay : mayN (mmA ⟨k, q, ⟨x, y, z, av⟩⟩ gs) = true := by
        have e : mayN (mmA ⟨k, q, ⟨x, y, z, av⟩⟩ gs) = (decide (0 ≤ ((k : Nat) : Int)) && decide (((k : Nat) : Int) < 8) && (decide (1 ≤ q) && decide (q ≤ 2305843009213693952)) && mayRep x y z gs) := rfl
        rw [e, hmr, decide_eq_true (show 0 ≤ ((k : Nat) : Int) by omega), decide_eq_true (show ((k : Nat) : Int) < 8 by omega), decide_eq_true hq1, decide_eq_true (show q ≤ 2305843009213693952 by omega)]; rfl
      have hup := all2_up mmr_key (SH.prop H (i := 3) rfl) (right_up hr)
      refine CW.seq (fun K13 h13 => ?_)
      refine CW.region ?_
      refine r_assign rfl ?_
      refine LW.nil ?_
      refine thenE_norm (h13 _ _ ?_); clear h13; try clear K13
      refine CW.seqJ [0, 3, 4, 5, 6] [7] (fun vs w' => vs = [.int .i64 (freshN ms k q)] ∧ SH Non Any w w' [.R (Old w) v acts, .B b4_0 97 (flat nw), .O 80 u raws g, .P FP (MmsA FP raws ms), .P FQ (MmsA FQ (nw.map memA) ns), .B b 66 [.int .i64 k, .int .i64 q, .int .i64 x, .int .i64 y, .int .i64 z, av], .O 61 av gs ag]) ?_ ?_
      · refine CW.seq (fun K15 h15 => ?_)
        refine CW.drawP [1, 5] [] H (by dsimp only [pickC, nthC] <;> rfl) (by repeat first | exact List.Sublist.refl _ | exact List.nil_sublist _ | apply List.Sublist.cons_cons | apply List.Sublist.cons) (by kernel_rfl) rfl ?_
        clear H
        intro w10d H
        refine DL.take (i := 0) [] rfl (by kernel_rfl) (by kernel_rfl) (by kernel_rfl) (by kernel_rfl) rfl rfl (fun u H => x_fieldAddrO Try.underlying66 rfl Try.sizeOf3 (by decide) (show _ = 0 from rfl) rfl) (SH.sub H (by repeat first | exact List.Sublist.refl _ | exact List.nil_sublist _ | apply List.Sublist.cons_cons | apply List.Sublist.cons)) ?_
        refine DL.take (i := 1) [] rfl (by kernel_rfl) (by kernel_rfl) (by kernel_rfl) (by kernel_rfl) rfl rfl (fun u H => x_load Try.isAgg3 rfl (SH.cellB H (i := 1) (o := 0) rfl rfl)) (SH.sub H (by repeat first | exact List.Sublist.refl _ | exact List.nil_sublist _ | apply List.Sublist.cons_cons | apply List.Sublist.cons)) ?_
        refine DL.take (i := 2) [] rfl (by kernel_rfl) (by kernel_rfl) (by kernel_rfl) (by kernel_rfl) rfl rfl (fun u H => x_indexAddrA Try.underlying97 rfl rfl (by exact Try.sizeOf66) (by omega) (by omega)) (SH.sub H (by repeat first | exact List.Sublist.refl _ | exact List.nil_sublist _ | apply List.Sublist.cons_cons | apply List.Sublist.cons)) ?_
        refine DL.take (i := 3) [] rfl (by kernel_rfl) (by kernel_rfl) (by kernel_rfl) (by kernel_rfl) rfl rfl (fun u H => x_fieldAddrO Try.underlying66 rfl Try.sizeOf3 (by decide) (show _ + 1 = _ from rfl) rfl) (SH.sub H (by repeat first | exact List.Sublist.refl _ | exact List.nil_sublist _ | apply List.Sublist.cons_cons | apply List.Sublist.cons)) ?_
        refine DL.take (i := 4) [] rfl (by kernel_rfl) (by kernel_rfl) (by kernel_rfl) (by kernel_rfl) rfl rfl (fun u H => x_load Try.isAgg3 rfl ((SH.blk H (i := 0) rfl).cell (o := 0 + ((k : Nat) : Int).toNat * 6 + 1) hc1)) (SH.sub H (by repeat first | exact List.Sublist.refl _ | exact List.nil_sublist _ | apply List.Sublist.cons_cons | apply List.Sublist.cons)) ?_
        refine DL.take (i := 5) [] rfl (by kernel_rfl) (by kernel_rfl) (by kernel_rfl) (by kernel_rfl) rfl rfl (fun u H => x_fieldAddrO Try.underlying66 rfl Try.sizeOf3 (by decide) (show _ = 1 from rfl) rfl) (SH.sub H (by repeat first | exact List.Sublist.refl _ | exact List.nil_sublist _ | apply List.Sublist.cons_cons | apply List.Sublist.cons)) ?_
        refine DL.take (i := 6) [] rfl (by kernel_rfl) (by kernel_rfl) (by kernel_rfl) (by kernel_rfl) rfl rfl (fun u H => x_load Try.isAgg3 rfl (SH.cellB H (i := 1) (o := 1) rfl rfl)) (SH.sub H (by repeat first | exact List.Sublist.refl _ | exact List.nil_sublist _ | apply List.Sublist.cons_cons | apply List.Sublist.cons)) ?_
        refine DL.take (i := 7) [] rfl (by kernel_rfl) (by kernel_rfl) (by kernel_rfl) (by kernel_rfl) rfl rfl (fun u H => x_eql rfl rfl) (SH.sub H (by repeat first | exact List.Sublist.refl _ | exact List.nil_sublist _ | apply List.Sublist.cons_cons | apply List.Sublist.cons)) ?_
        refine DL.done (by kernel_rfl) ?_
        refine thenE_norm ?_
        refine cut (K := K15) [0, 3, 4, 5, 6, 7, 44] (fun σ => ?_)
        simp only [setL, keepE, upd_get, ev, Nat.reduceEqDiff, ↓reduceIte]
        refine h15 _ _ ?_; clear h15; try clear K15
        refine CW.cond rfl (fun hc3 => ?_) (fun hc3 => ?_)
        · try simp only [decide_eq_true_eq, decide_eq_false_iff_not, Bool.and_eq_true, Bool.or_eq_true, Bool.and_eq_false_iff, Bool.or_eq_false_iff, Bool.not_eq_true', Bool.not_eq_false', beq_iff_eq, bne_iff_ne, ne_eq, Decidable.not_not] at hc3
          refine CW.region ?_
          refine r_assign rfl ?_
          refine LW.nil ?_
          refine thenE_norm ?_
          exact ⟨rfl, by rw [hfr, if_pos (by omega)]; rfl, H⟩
        · try simp only [decide_eq_true_eq, decide_eq_false_iff_not, Bool.and_eq_true, Bool.or_eq_true, Bool.and_eq_false_iff, Bool.or_eq_false_iff, Bool.not_eq_true', Bool.not_eq_false', beq_iff_eq, bne_iff_ne, ne_eq, Decidable.not_not] at hc3
          refine CW.seq (fun K16 h16 => ?_)
          refine CW.drawP [1, 5] [] H (by dsimp only [pickC, nthC] <;> rfl) (by repeat first | exact List.Sublist.refl _ | exact List.nil_sublist _ | apply List.Sublist.cons_cons | apply List.Sublist.cons) (by kernel_rfl) rfl ?_
          clear H
          intro w12d H
          refine DL.take (i := 0) [] rfl (by kernel_rfl) (by kernel_rfl) (by kernel_rfl) (by kernel_rfl) rfl rfl (fun u H => x_fieldAddrO Try.underlying66 rfl Try.sizeOf3 (by decide) (show _ = 0 from rfl) rfl) (SH.sub H (by repeat first | exact List.Sublist.refl _ | exact List.nil_sublist _ | apply List.Sublist.cons_cons | apply List.Sublist.cons)) ?_
          refine DL.take (i := 1) [] rfl (by kernel_rfl) (by kernel_rfl) (by kernel_rfl) (by kernel_rfl) rfl rfl (fun u H => x_load Try.isAgg3 rfl (SH.cellB H (i := 1) (o := 0) rfl rfl)) (SH.sub H (by repeat first | exact List.Sublist.refl _ | exact List.nil_sublist _ | apply List.Sublist.cons_cons | apply List.Sublist.cons)) ?_
          refine DL.take (i := 2) [] rfl (by kernel_rfl) (by kernel_rfl) (by kernel_rfl) (by kernel_rfl) rfl rfl (fun u H => x_indexAddrA Try.underlying97 rfl rfl (by exact Try.sizeOf66) (by omega) (by omega)) (SH.sub H (by repeat first | exact List.Sublist.refl _ | exact List.nil_sublist _ | apply List.Sublist.cons_cons | apply List.Sublist.cons)) ?_
          refine DL.take (i := 3) [] rfl (by kernel_rfl) (by kernel_rfl) (by kernel_rfl) (by kernel_rfl) rfl rfl (fun u H => x_fieldAddrO Try.underlying66 rfl Try.sizeOf3 (by decide) (show _ + 1 = _ from rfl) rfl) (SH.sub H (by repeat first | exact List.Sublist.refl _ | exact List.nil_sublist _ | apply List.Sublist.cons_cons | apply List.Sublist.cons)) ?_
          refine DL.take (i := 4) [] rfl (by kernel_rfl) (by kernel_rfl) (by kernel_rfl) (by kernel_rfl) rfl rfl (fun u H => x_load Try.isAgg3 rfl ((SH.blk H (i := 0) rfl).cell (o := 0 + ((k : Nat) : Int).toNat * 6 + 1) hc1)) (SH.sub H (by repeat first | exact List.Sublist.refl _ | exact List.nil_sublist _ | apply List.Sublist.cons_cons | apply List.Sublist.cons)) ?_
          refine DL.take (i := 5) [] rfl (by kernel_rfl) (by kernel_rfl) (by kernel_rfl) (by kernel_rfl) rfl rfl (fun u H => x_fieldAddrO Try.underlying66 rfl Try.sizeOf3 (by decide) (show _ = 1 from rfl) rfl) (SH.sub H (by repeat first | exact List.Sublist.refl _ | exact List.nil_sublist _ | apply List.Sublist.cons_cons | apply List.Sublist.cons)) ?_
          refine DL.take (i := 6) [] rfl (by kernel_rfl) (by kernel_rfl) (by kernel_rfl) (by kernel_rfl) rfl rfl (fun u H => x_load Try.isAgg3 rfl (SH.cellB H (i := 1) (o := 1) rfl rfl)) (SH.sub H (by repeat first | exact List.Sublist.refl _ | exact List.nil_sublist _ | apply List.Sublist.cons_cons | apply List.Sublist.cons)) ?_
          refine DL.take (i := 7) [] rfl (by kernel_rfl) (by kernel_rfl) (by kernel_rfl) (by kernel_rfl) rfl rfl (fun u H => x_gtr rfl rfl) (SH.sub H (by repeat first | exact List.Sublist.refl _ | exact List.nil_sublist _ | apply List.Sublist.cons_cons | apply List.Sublist.cons)) ?_
          refine DL.done (by kernel_rfl) ?_
          refine thenE_norm ?_
          refine cut (K := K16) [0, 3, 4, 5, 6, 7, 52] (fun σ => ?_)
          simp only [setL, keepE, upd_get, ev, Nat.reduceEqDiff, ↓reduceIte]
          refine h16 _ _ ?_; clear h16; try clear K16
          refine CW.cond rfl (fun hc4 => ?_) (fun hc4 => ?_)
          · try simp only [decide_eq_true_eq, decide_eq_false_iff_not, Bool.and_eq_true, Bool.or_eq_true, Bool.and_eq_false_iff, Bool.or_eq_false_iff, Bool.not_eq_true', Bool.not_eq_false', beq_iff_eq, bne_iff_ne, ne_eq, Decidable.not_not] at hc4
            refine CW.region ?_
            refine r_assign rfl ?_
            refine LW.nil ?_
            refine thenE_norm ?_
            exact ⟨rfl, by rw [hfr, if_neg (by omega), if_pos (by omega)]; rfl, H⟩
          · try simp only [decide_eq_true_eq, decide_eq_false_iff_not, Bool.and_eq_true, Bool.or_eq_true, Bool.and_eq_false_iff, Bool.or_eq_false_iff, Bool.not_eq_true', Bool.not_eq_false', beq_iff_eq, bne_iff_ne, ne_eq, Decidable.not_not] at hc4
            refine CW.skip ?_
            refine thenE_norm ?_
            exact ⟨rfl, by rw [hfr, if_neg (by omega), if_neg (by omega)]; rfl, H⟩
      try clear H
      rintro vs wJ σ ⟨rfl, H⟩
      simp only [setL, keepE, upd_get, ev, Nat.reduceEqDiff, ↓reduceIte]
      refine CW.seq (fun K17 h17 => ?_)
      refine CW.seq (fun K18 h18 => ?_)
      refine CW.region ?_
      refine r_move rfl ?_
      refine r_fieldAddrO rfl Try.underlying66 rfl Try.sizeOf3 (by decide) (show _ = 0 from rfl) rfl ?_
      refine r_load rfl Try.isAgg3 rfl (SH.cellB H (i := 5) (o := 0) rfl rfl) ?_
      refine r_fieldAddrO rfl Try.underlying66 rfl Try.sizeOf3 (by decide) (show _ = 1 from rfl) rfl ?_
      refine r_load rfl Try.isAgg3 rfl (SH.cellB H (i := 5) (o := 1) rfl rfl) ?_
      refine r_call rfl Try.call66 (by simp only [List.map_cons, List.map_nil, List.map_toArray, List.toList_toArray, upd_get, ev, Nat.reduceEqDiff, ↓reduceIte] <;> rfl) (FreshM_c _ _ _ (SH.rsO H (i := 2) rfl) (by omega) hup) ?_
      rintro _ w14_5 ⟨rfl, X⟩
      refine ⟨_, rfl, ?_⟩
      replace H := SH.same H X
      clear X
      refine r_move rfl ?_
      refine r_neq rfl rfl rfl ?_
      refine LW.nil ?_
      refine thenE_norm ?_
      refine cut (K := K18) [0, 3, 4, 5, 6, 7, 60] (fun σ => ?_)
      simp only [setL, keepE, upd_get, ev, Nat.reduceEqDiff, ↓reduceIte]
      refine h18 _ _ ?_; clear h18; try clear K18
      refine CW.condF rfl (by rw [fresh_raw (SH.prop H (i := 3) rfl)]; simp) ?_
      refine CW.skip ?_
      refine thenE_norm (h17 _ _ ?_); clear h17; try clear K17
      refine CW.seq (fun K19 h19 => ?_)
      refine CW.region ?_
      refine r_move rfl ?_
      refine r_loadA rfl Try.isAgg66 Try.sizeOf66 rfl (SH.cells H (i := 5) rfl) rfl ?_
      refine r_call rfl Try.call63 (by simp only [List.map_cons, List.map_nil, List.map_toArray, List.toList_toArray, upd_get, ev, Nat.reduceEqDiff, ↓reduceIte] <;> rfl) (Keep_c ⟨_, _, ⟨_, _, _, _⟩⟩ _ (SH.rsO H (i := 2) rfl) (SH.prop H (i := 3) rfl) (SH.rsO H (i := 6) rfl) (by omega) hr hsm) ?_
      rintro _ w16_2 ⟨v16_2, raws16_2, g16_2, F16_2, rfl, K⟩
      refine ⟨_, rfl, ?_⟩
      replace H := SH.call H K
      clear K
      try dsimp only [replC, List.cons_append, List.nil_append, List.append_nil] at H
      have hr2 := keep_right (mmA ⟨k, q, ⟨x, y, z, av⟩⟩ gs) hr
      have hml2 := keep_len ms (mmA ⟨k, q, ⟨x, y, z, av⟩⟩ gs)
      refine r_assign rfl ?_
      refine LW.nil ?_
      refine thenE_norm (h19 _ _ ?_); clear h19; try clear K19
      refine CW.seqJ [0, 3, 4, 5] [] (fun vs w' => ∃ (nw' : List Ans) (ns' : List Mm) (FQ' : Nat → Prop), vs = [] ∧ NwOk (keepN ms (mmA ⟨k, q, ⟨x, y, z, av⟩⟩ gs)) ns' ∧ SH Non Any w w' [.R (Old w) v acts, .B b4_0 97 (flat nw'), .O 80 v16_2 raws16_2 g16_2, .P F16_2 (MmsA F16_2 raws16_2 (keepN ms (mmA ⟨k, q, ⟨x, y, z, av⟩⟩ gs))), .P FQ' (MmsA FQ' (nw'.map memA) ns')]) ?_ ?_
      · refine CW.seq (fun K21 h21 => ?_)
        refine CW.region ?_
        refine r_move rfl ?_
        refine r_eql rfl rfl rfl ?_
        refine LW.nil ?_
        refine thenE_norm (h21 _ _ ?_); clear h21; try clear K21
        refine CW.cond rfl (fun hc6 => ?_) (fun hc6 => ?_)
        · try simp only [decide_eq_true_eq, decide_eq_false_iff_not, Bool.and_eq_true, Bool.or_eq_true, Bool.and_eq_false_iff, Bool.or_eq_false_iff, Bool.not_eq_true', Bool.not_eq_false', beq_iff_eq, bne_iff_ne, ne_eq, Decidable.not_not] at hc6
          refine CW.region ?_
          refine r_fieldAddrO rfl Try.underlying66 rfl Try.sizeOf3 (by decide) (show _ = 0 from rfl) rfl ?_
          refine r_load rfl Try.isAgg3 rfl (SH.cellB H (i := 5) (o := 0) rfl rfl) ?_
          refine r_loadA rfl Try.isAgg66 Try.sizeOf66 rfl (SH.cells H (i := 5) rfl) rfl ?_
          refine r_indexAddrA rfl Try.underlying97 rfl rfl (by exact Try.sizeOf66) (by omega) (by omega) ?_
          refine s_storeA (i := 1) (vs := [.int .i64 k, .int .i64 q, .int .i64 x, .int .i64 y, .int .i64 z, av]) H Try.sizeOf66 rfl (by simp only [upd_get, ev, Nat.reduceEqDiff, ↓reduceIte] <;> rfl) (by rfl) (by rfl) (by simp only [List.all_cons, List.all_nil, Bool.and_true, Bool.and_eq_true]; exact ⟨rfl, rfl, rfl, rfl, rfl, Rs.oneC (SH.rsO H (i := 6) rfl)⟩) rfl (by rw [flat_len, show nw.length = 8 from by rw [← hnw.1, ← All2.len (SH.prop H (i := 4) rfl), List.length_map]]; show 0 + ((k : Nat) : Int).toNat * 6 + 6 ≤ 8 * 6; omega) ?_
          have hfs : spliceL (flat nw) (0 + ((k : Nat) : Int).toNat * 6) [.int .i64 k, .int .i64 q, .int .i64 x, .int .i64 y, .int .i64 z, av] = flat (nw.set k ⟨k, q, ⟨x, y, z, av⟩⟩) := by
            rw [Int.toNat_natCast, Nat.zero_add]
            exact (flat_set (y := (⟨k, q, ⟨x, y, z, av⟩⟩ : Ans)) hrk).symm
          clear H
          intro w18_4 H
          dsimp only [replC, List.cons_append, List.nil_append] at H
          rw [hfs] at H
          refine LW.nil ?_
          refine thenE_norm ?_
          have H2 := SH.absorb (A' := MmsA _ ((nw.set k ⟨k, q, ⟨x, y, z, av⟩⟩).map memA) (ns.set k (mmA ⟨k, q, ⟨x, y, z, av⟩⟩ gs))) (SH.sel H [4, 6, 0, 1, 7, 8] (by decide) rfl) trivial mms_st (fun h kk => by
            rw [List.map_set]
            exact All2.set k (MmsA.mono h fun b hb => .inl hb) (memA_r ((Ow.rs kk).mono fun b _ hb => .inr hb)))
          exact ⟨rfl, _, _, _, rfl, nw_put hnw hk8 hmay rfl hc6, SH.sel H2 [1, 2, 3, 4, 0] (by decide) rfl⟩
        · try simp only [decide_eq_true_eq, decide_eq_false_iff_not, Bool.and_eq_true, Bool.or_eq_true, Bool.and_eq_false_iff, Bool.or_eq_false_iff, Bool.not_eq_true', Bool.not_eq_false', beq_iff_eq, bne_iff_ne, ne_eq, Decidable.not_not] at hc6
          refine CW.skip ?_
          refine thenE_norm ?_
          exact ⟨rfl, _, _, _, rfl, nw_old hnw hc6, SH.sel H [0, 1, 7, 8, 4] (by decide) rfl⟩
      try clear H
      rintro vs wJ σ ⟨nw', ns', FQ', rfl, hnw', H⟩
      simp only [setL, keepE, upd_get, ev, Nat.reduceEqDiff, ↓reduceIte]
      generalize keepN ms (mmA ⟨k, q, ⟨x, y, z, av⟩⟩ gs) = ms2 at *
      have l2 := All2.len (SH.prop H (i := 3) rfl)
      refine CW.seq (fun K22 h22 => ?_)
      refine CW.region ?_
      refine r_assign rfl ?_
      refine LW.nil ?_
      refine thenE_norm (h22 _ _ ?_); clear h22; try clear K22
      refine CW.block ?_
      refine CW.loopR [0, 3, 4, 5] [8] (fun m vs w' => ∃ j : Nat, vs = [.int .i64 j] ∧ j ≤ 8 ∧ m = 8 - j ∧ SH Non Any w w' [.R (Old w) v acts, .B b4_0 97 (flat nw'), .O 80 v16_2 raws16_2 g16_2, .P F16_2 (MmsA F16_2 raws16_2 ms2), .P FQ' (MmsA FQ' (nw'.map memA) ns')]) (8) ?_ ?_
      · exact ⟨0, rfl, by omega, rfl, H⟩
      try clear H
      rintro n2 vs2 wL2 σ ⟨j, rfl, hj, rfl, H⟩
      simp only [setL, keepE, upd_get, ev, Nat.reduceEqDiff, ↓reduceIte]
      refine CW.seq (fun K23 h23 => ?_)
      refine CW.seq (fun K24 h24 => ?_)
      refine CW.region ?_
      refine r_move rfl ?_
      refine r_lss rfl rfl rfl ?_
      refine LW.nil ?_
      refine thenE_norm (h24 _ _ ?_); clear h24; try clear K24
      refine CW.cond rfl (fun hc7 => ?_) (fun hc7 => ?_)
      · try simp only [decide_eq_true_eq, decide_eq_false_iff_not, Bool.and_eq_true, Bool.or_eq_true, Bool.and_eq_false_iff, Bool.or_eq_false_iff, Bool.not_eq_true', Bool.not_eq_false', beq_iff_eq, bne_iff_ne, ne_eq, Decidable.not_not] at hc7
        refine CW.skip ?_
        refine thenE_norm (h23 _ _ ?_); clear h23; try clear K23
        refine CW.seq (fun K25 h25 => ?_)
        refine CW.block ?_
        refine CW.seq (fun K26 h26 => ?_)
        have hup2 := all2_up mmr_key (SH.prop H (i := 3) rfl) (right_up hr2)
        obtain ⟨n', hn', hor'⟩ := hnw'.2 j (by omega)
        obtain ⟨p, hp, hpn⟩ := All2.get' (SH.prop H (i := 4) rfl) hn'
        rw [List.getElem?_map, Option.map_eq_some_iff] at hp
        obtain ⟨p, hpk, rfl⟩ := hp
        obtain ⟨p1, p2, ⟨p3, p4, p5, p6⟩⟩ := p
        obtain ⟨d1, d2, d3, d4, d5, d6⟩ := hpn
        obtain ⟨n1, n2, n3, n4, n5, n6⟩ := n'
        dsimp only [memA] at d1 d2 d3 d4 d5 d6 hor'
        subst d1 d2 d3 d4 d5
        have hc2 : (flat nw')[0 + ((j : Nat) : Int).toNat * 6 + 1]? = some (.int .i64 p2) := by
          rw [Int.toNat_natCast, Nat.zero_add]
          exact flat_get hpk 1 (by decide)
        have hc3 : ((flat nw').drop (0 + ((j : Nat) : Int).toNat * 6 + 2)).take 4 = [.int .i64 p3, .int .i64 p4, .int .i64 p5, p6] := by
          rw [Int.toNat_natCast, Nat.zero_add]
          exact flat_part hpk 2 4 (by decide)
        have hop6 : oneC p6 = true := Rs.oneC d6
        have hpk2 : (nw'.map memA)[j]? = some (memA ⟨p1, p2, ⟨p3, p4, p5, p6⟩⟩) := by rw [List.getElem?_map, hpk]; rfl
        rcases hor' with ⟨hz, hnone⟩ | ⟨hsome, hpos⟩
        · refine CW.region ?_
          refine r_move rfl ?_
          refine r_move rfl ?_
          refine r_call rfl Try.call68 (by simp only [List.map_cons, List.map_nil, List.map_toArray, List.toList_toArray, upd_get, ev, Nat.reduceEqDiff, ↓reduceIte] <;> rfl) (Last_c _ _ (SH.rsO H (i := 2) rfl) (SH.prop H (i := 3) rfl) (by omega) (right_short hr2) hup2) ?_
          rintro _ w22_2 ⟨v22_2, g22_2, rfl, K⟩
          refine ⟨_, rfl, ?_⟩
          replace H := SH.call H K
          clear K
          try dsimp only [replC, List.cons_append, List.nil_append, List.append_nil] at H
          rw [lastN_none hnone] at H ⊢
          dsimp only at H ⊢
          refine r_move rfl ?_
          refine r_extract rfl (by simp only [upd_get, ev, Nat.reduceEqDiff, ↓reduceIte] <;> rfl) (by simp only [List.getElem?_toArray, List.getElem?_cons_zero, List.getElem?_cons_succ] <;> rfl) ?_
          refine r_extract rfl (by simp only [upd_get, ev, Nat.reduceEqDiff, ↓reduceIte] <;> rfl) (by simp only [List.getElem?_toArray, List.getElem?_cons_zero, List.getElem?_cons_succ] <;> rfl) ?_
          refine s_alloc (cs := [.int .i64 0, .int .i64 0, .int .i64 0, .int .i64 0, .int .i64 0, .slice none 0 0]) H rfl Try.zeroValue80 rfl ?_
          clear H
          intro b22_6 w22_6 H
          try dsimp only [replC, List.cons_append, List.nil_append, List.append_nil, agg, cellsL, Value.cells, List.toList_toArray, List.set_cons_zero, List.set_cons_succ, spliceL, List.take_succ_cons, List.take_zero, List.drop_succ_cons, List.drop_zero, List.length_cons, List.length_nil, Nat.reduceAdd, Row.cells, Gr.L, Rep.L, Mem.L, Ans.L, Act9.L] at H
          refine s_storeA H Try.sizeOf80 rfl (by simp only [upd_get, ev, Nat.reduceEqDiff, ↓reduceIte] <;> rfl) (by simp only [cellsL, agg, List.toList_toArray, Row.cells, Gr.L, Rep.L, Mem.L, Ans.L, Act9.L] <;> rfl) (by rfl) (by first | rfl | assumption | exact Rs.oneC (by first | assumption | exact SH.rsR H (by (repeat first | exact At.here | apply At.there); done) | exact SH.rsO H (by (repeat first | exact At.here | apply At.there); done) | exact (Rs.nil : Rs Non _ _ _)) | (simp only [List.all_cons, List.all_nil, Bool.and_true, Bool.and_eq_true, Row.cells, Gr.L, Rep.L, Mem.L, Ans.L, Act9.L]; (repeat' constructor) <;> first | rfl | assumption | exact Rs.oneC (by first | assumption | exact SH.rsR H (by (repeat first | exact At.here | apply At.there); done) | exact SH.rsO H (by (repeat first | exact At.here | apply At.there); done) | exact (Rs.nil : Rs Non _ _ _)))) (by (repeat first | exact At.here | apply At.there); done) (by first | (simp; done) | decide | (show _ ≤ _; decide)) ?_
          clear H
          intro w22_7 H
          try dsimp only [replC, List.cons_append, List.nil_append, List.append_nil, agg, cellsL, Value.cells, List.toList_toArray, List.set_cons_zero, List.set_cons_succ, spliceL, List.take_succ_cons, List.take_zero, List.drop_succ_cons, List.drop_zero, List.length_cons, List.length_nil, Nat.reduceAdd, Row.cells, Gr.L, Rep.L, Mem.L, Ans.L, Act9.L] at H
          refine r_assign rfl ?_
          refine LW.nil ?_
          refine thenE_norm ?_
          refine cut (K := K26) [0, 3, 4, 5, 8, 9, 10] (fun σ => ?_)
          simp only [setL, keepE, upd_get, ev, Nat.reduceEqDiff, ↓reduceIte]
          refine h26 _ _ ?_; clear h26; try clear K26
          refine CW.seq (fun K27 h27 => ?_)
          refine CW.drawP [1, 6] [] H (by dsimp only [pickC, nthC] <;> rfl) (by repeat first | exact List.Sublist.refl _ | exact List.nil_sublist _ | apply List.Sublist.cons_cons | apply List.Sublist.cons) (by kernel_rfl) rfl ?_
          clear H
          intro w23d H
          refine DL.take (i := 0) [] rfl (by kernel_rfl) (by kernel_rfl) (by kernel_rfl) (by kernel_rfl) rfl rfl (fun u H => x_move ) (SH.sub H (by repeat first | exact List.Sublist.refl _ | exact List.nil_sublist _ | apply List.Sublist.cons_cons | apply List.Sublist.cons)) ?_
          refine DL.take (i := 1) [] rfl (by kernel_rfl) (by kernel_rfl) (by kernel_rfl) (by kernel_rfl) rfl rfl (fun u H => x_move ) (SH.sub H (by repeat first | exact List.Sublist.refl _ | exact List.nil_sublist _ | apply List.Sublist.cons_cons | apply List.Sublist.cons)) ?_
          refine DL.take (i := 2) [] rfl (by kernel_rfl) (by kernel_rfl) (by kernel_rfl) (by kernel_rfl) rfl rfl (fun u H => x_indexAddrA Try.underlying97 rfl rfl (by exact Try.sizeOf66) (by omega) (by omega)) (SH.sub H (by repeat first | exact List.Sublist.refl _ | exact List.nil_sublist _ | apply List.Sublist.cons_cons | apply List.Sublist.cons)) ?_
          refine DL.take (i := 3) [] rfl (by kernel_rfl) (by kernel_rfl) (by kernel_rfl) (by kernel_rfl) rfl rfl (fun u H => x_fieldAddrO Try.underlying66 rfl Try.sizeOf3 (by decide) (show _ + 1 = _ from rfl) rfl) (SH.sub H (by repeat first | exact List.Sublist.refl _ | exact List.nil_sublist _ | apply List.Sublist.cons_cons | apply List.Sublist.cons)) ?_
          refine DL.take (i := 4) [] rfl (by kernel_rfl) (by kernel_rfl) (by kernel_rfl) (by kernel_rfl) rfl rfl (fun u H => x_load Try.isAgg3 rfl ((SH.blk H (i := 0) rfl).cell (o := 0 + ((j : Nat) : Int).toNat * 6 + 1) hc2)) (SH.sub H (by repeat first | exact List.Sublist.refl _ | exact List.nil_sublist _ | apply List.Sublist.cons_cons | apply List.Sublist.cons)) ?_
          refine DL.take (i := 5) [] rfl (by kernel_rfl) (by kernel_rfl) (by kernel_rfl) (by kernel_rfl) rfl rfl (fun u H => x_gtr rfl rfl) (SH.sub H (by repeat first | exact List.Sublist.refl _ | exact List.nil_sublist _ | apply List.Sublist.cons_cons | apply List.Sublist.cons)) ?_
          refine DL.take (i := 6) [] rfl (by kernel_rfl) (by kernel_rfl) (by kernel_rfl) (by kernel_rfl) rfl rfl (fun u H => x_neqB Try.underlying4 rfl rfl) (SH.sub H (by repeat first | exact List.Sublist.refl _ | exact List.nil_sublist _ | apply List.Sublist.cons_cons | apply List.Sublist.cons)) ?_
          refine DL.take (i := 7) [] rfl (by kernel_rfl) (by kernel_rfl) (by kernel_rfl) (by kernel_rfl) rfl rfl (fun u H => x_move ) (SH.sub H (by repeat first | exact List.Sublist.refl _ | exact List.nil_sublist _ | apply List.Sublist.cons_cons | apply List.Sublist.cons)) ?_
          refine DL.known (t := 87) (c := false) rfl (by rw [hz]; simp) (fun hg23_7 => ?_)
          refine DL.take (i := 8) [] rfl (by kernel_rfl) (by kernel_rfl) (by kernel_rfl) (by kernel_rfl) rfl (wantE rfl rfl hg23_7) (fun u H => x_move ) (SH.sub H (by repeat first | exact List.Sublist.refl _ | exact List.nil_sublist _ | apply List.Sublist.cons_cons | apply List.Sublist.cons)) ?_
          refine DL.take (i := 9) [] rfl (by kernel_rfl) (by kernel_rfl) (by kernel_rfl) (by kernel_rfl) rfl (wantE rfl rfl hg23_7) (fun u H => x_move ) (SH.sub H (by repeat first | exact List.Sublist.refl _ | exact List.nil_sublist _ | apply List.Sublist.cons_cons | apply List.Sublist.cons)) ?_
          refine DL.known (t := 89) (c := false) rfl (by first | rfl | (simp only [decide_eq_true_eq, decide_eq_false_iff_not, Bool.and_eq_true, Bool.or_eq_true, Bool.and_eq_false_iff, Bool.or_eq_false_iff, Bool.not_eq_true', Bool.not_eq_false', beq_iff_eq, bne_iff_ne]; omega) | simp_all) (fun hg23_9 => ?_)
          refine DL.skip (i := 10) [] rfl (by kernel_rfl) (by kernel_rfl) (by kernel_rfl) (by kernel_rfl) rfl (skipE rfl rfl hg23_9) (SH.sub H (by repeat first | exact List.Sublist.refl _ | exact List.nil_sublist _ | apply List.Sublist.cons_cons | apply List.Sublist.cons)) ?_
          refine DL.skip (i := 11) [] rfl (by kernel_rfl) (by kernel_rfl) (by kernel_rfl) (by kernel_rfl) rfl (skipE rfl rfl hg23_9) (SH.sub H (by repeat first | exact List.Sublist.refl _ | exact List.nil_sublist _ | apply List.Sublist.cons_cons | apply List.Sublist.cons)) ?_
          refine DL.skip (i := 12) [] rfl (by kernel_rfl) (by kernel_rfl) (by kernel_rfl) (by kernel_rfl) rfl (skipE rfl rfl hg23_9) (SH.sub H (by repeat first | exact List.Sublist.refl _ | exact List.nil_sublist _ | apply List.Sublist.cons_cons | apply List.Sublist.cons)) ?_
          refine DL.skip (i := 13) [] rfl (by kernel_rfl) (by kernel_rfl) (by kernel_rfl) (by kernel_rfl) rfl (skipE rfl rfl hg23_9) (SH.sub H (by repeat first | exact List.Sublist.refl _ | exact List.nil_sublist _ | apply List.Sublist.cons_cons | apply List.Sublist.cons)) ?_
          refine DL.skip (i := 14) [] rfl (by kernel_rfl) (by kernel_rfl) (by kernel_rfl) (by kernel_rfl) rfl (skipE rfl rfl hg23_9) (SH.sub H (by repeat first | exact List.Sublist.refl _ | exact List.nil_sublist _ | apply List.Sublist.cons_cons | apply List.Sublist.cons)) ?_
          refine DL.skip (i := 15) [] rfl (by kernel_rfl) (by kernel_rfl) (by kernel_rfl) (by kernel_rfl) rfl (skipUE rfl rfl) (SH.sub H (by repeat first | exact List.Sublist.refl _ | exact List.nil_sublist _ | apply List.Sublist.cons_cons | apply List.Sublist.cons)) ?_
          refine DL.skip (i := 16) [] rfl (by kernel_rfl) (by kernel_rfl) (by kernel_rfl) (by kernel_rfl) rfl (skipUE rfl rfl) (SH.sub H (by repeat first | exact List.Sublist.refl _ | exact List.nil_sublist _ | apply List.Sublist.cons_cons | apply List.Sublist.cons)) ?_
          refine DL.skip (i := 17) [] rfl (by kernel_rfl) (by kernel_rfl) (by kernel_rfl) (by kernel_rfl) rfl (skipUE rfl rfl) (SH.sub H (by repeat first | exact List.Sublist.refl _ | exact List.nil_sublist _ | apply List.Sublist.cons_cons | apply List.Sublist.cons)) ?_
          refine DL.skip (i := 18) [] rfl (by kernel_rfl) (by kernel_rfl) (by kernel_rfl) (by kernel_rfl) rfl (skipUE rfl rfl) (SH.sub H (by repeat first | exact List.Sublist.refl _ | exact List.nil_sublist _ | apply List.Sublist.cons_cons | apply List.Sublist.cons)) ?_
          refine DL.skip (i := 19) [] rfl (by kernel_rfl) (by kernel_rfl) (by kernel_rfl) (by kernel_rfl) rfl (skipUE rfl rfl) (SH.sub H (by repeat first | exact List.Sublist.refl _ | exact List.nil_sublist _ | apply List.Sublist.cons_cons | apply List.Sublist.cons)) ?_
          refine DL.skip (i := 20) [] rfl (by kernel_rfl) (by kernel_rfl) (by kernel_rfl) (by kernel_rfl) rfl (skipUE rfl rfl) (SH.sub H (by repeat first | exact List.Sublist.refl _ | exact List.nil_sublist _ | apply List.Sublist.cons_cons | apply List.Sublist.cons)) ?_
          refine DL.skip (i := 21) [] rfl (by kernel_rfl) (by kernel_rfl) (by kernel_rfl) (by kernel_rfl) rfl (skipUE rfl rfl) (SH.sub H (by repeat first | exact List.Sublist.refl _ | exact List.nil_sublist _ | apply List.Sublist.cons_cons | apply List.Sublist.cons)) ?_
          refine DL.skip (i := 22) [] rfl (by kernel_rfl) (by kernel_rfl) (by kernel_rfl) (by kernel_rfl) rfl (skipE rfl rfl hg23_9) (SH.sub H (by repeat first | exact List.Sublist.refl _ | exact List.nil_sublist _ | apply List.Sublist.cons_cons | apply List.Sublist.cons)) ?_
          refine DL.skip (i := 23) [] rfl (by kernel_rfl) (by kernel_rfl) (by kernel_rfl) (by kernel_rfl) rfl (skipE rfl rfl hg23_9) (SH.sub H (by repeat first | exact List.Sublist.refl _ | exact List.nil_sublist _ | apply List.Sublist.cons_cons | apply List.Sublist.cons)) ?_
          refine DL.skip (i := 24) [] rfl (by kernel_rfl) (by kernel_rfl) (by kernel_rfl) (by kernel_rfl) rfl (skipUE rfl rfl) (SH.sub H (by repeat first | exact List.Sublist.refl _ | exact List.nil_sublist _ | apply List.Sublist.cons_cons | apply List.Sublist.cons)) ?_
          refine DL.skip (i := 25) [] rfl (by kernel_rfl) (by kernel_rfl) (by kernel_rfl) (by kernel_rfl) rfl (skipUE rfl rfl) (SH.sub H (by repeat first | exact List.Sublist.refl _ | exact List.nil_sublist _ | apply List.Sublist.cons_cons | apply List.Sublist.cons)) ?_
          refine DL.skip (i := 26) [] rfl (by kernel_rfl) (by kernel_rfl) (by kernel_rfl) (by kernel_rfl) rfl (skipUE rfl rfl) (SH.sub H (by repeat first | exact List.Sublist.refl _ | exact List.nil_sublist _ | apply List.Sublist.cons_cons | apply List.Sublist.cons)) ?_
          refine DL.skip (i := 27) [] rfl (by kernel_rfl) (by kernel_rfl) (by kernel_rfl) (by kernel_rfl) rfl (skipUE rfl rfl) (SH.sub H (by repeat first | exact List.Sublist.refl _ | exact List.nil_sublist _ | apply List.Sublist.cons_cons | apply List.Sublist.cons)) ?_
          refine DL.skip (i := 28) [] rfl (by kernel_rfl) (by kernel_rfl) (by kernel_rfl) (by kernel_rfl) rfl (skipUE rfl rfl) (SH.sub H (by repeat first | exact List.Sublist.refl _ | exact List.nil_sublist _ | apply List.Sublist.cons_cons | apply List.Sublist.cons)) ?_
          refine DL.skip (i := 29) [] rfl (by kernel_rfl) (by kernel_rfl) (by kernel_rfl) (by kernel_rfl) rfl (skipUE rfl rfl) (SH.sub H (by repeat first | exact List.Sublist.refl _ | exact List.nil_sublist _ | apply List.Sublist.cons_cons | apply List.Sublist.cons)) ?_
          refine DL.skip (i := 30) [] rfl (by kernel_rfl) (by kernel_rfl) (by kernel_rfl) (by kernel_rfl) rfl (skipUE rfl rfl) (SH.sub H (by repeat first | exact List.Sublist.refl _ | exact List.nil_sublist _ | apply List.Sublist.cons_cons | apply List.Sublist.cons)) ?_
          refine DL.skip (i := 31) [] rfl (by kernel_rfl) (by kernel_rfl) (by kernel_rfl) (by kernel_rfl) rfl (skipUE rfl rfl) (SH.sub H (by repeat first | exact List.Sublist.refl _ | exact List.nil_sublist _ | apply List.Sublist.cons_cons | apply List.Sublist.cons)) ?_
          refine DL.skip (i := 32) [] rfl (by kernel_rfl) (by kernel_rfl) (by kernel_rfl) (by kernel_rfl) rfl (skipE rfl rfl hg23_9) (SH.sub H (by repeat first | exact List.Sublist.refl _ | exact List.nil_sublist _ | apply List.Sublist.cons_cons | apply List.Sublist.cons)) ?_
          refine DL.take (i := 33) [] rfl (by kernel_rfl) (by kernel_rfl) (by kernel_rfl) (by kernel_rfl) rfl (wantE rfl rfl hg23_7) (fun u H => x_pickF rfl hg23_9) (SH.sub H (by repeat first | exact List.Sublist.refl _ | exact List.nil_sublist _ | apply List.Sublist.cons_cons | apply List.Sublist.cons)) ?_
          refine DL.take (i := 34) [] rfl (by kernel_rfl) (by kernel_rfl) (by kernel_rfl) (by kernel_rfl) rfl rfl (fun u H => x_pickF rfl hg23_7) (SH.sub H (by repeat first | exact List.Sublist.refl _ | exact List.nil_sublist _ | apply List.Sublist.cons_cons | apply List.Sublist.cons)) ?_
          refine DL.done (by kernel_rfl) ?_
          refine thenE_norm ?_
          refine cut (K := K27) [0, 3, 4, 5, 8, 114] (fun σ => ?_)
          simp only [setL, keepE, upd_get, ev, Nat.reduceEqDiff, ↓reduceIte]
          refine h27 _ _ ?_; clear h27; try clear K27
          refine CW.condF rfl (by simp [sameRep]) ?_
          refine CW.skip ?_
          refine blockE_norm ?_
          refine thenE_norm (h25 _ _ ?_); clear h25; try clear K25
          refine CW.region ?_
          refine r_move rfl ?_
          refine r_add rfl rfl rfl (wr_i64 (by omega) (by omega)) ?_
          refine r_assign rfl ?_
          refine LW.nil ?_
          refine thenE_norm ⟨rfl, ?_⟩
          exact ⟨8 - (j + 1), by omega, j + 1, rfl, by omega, rfl, SH.sel H [0, 1, 2, 3, 4] (by decide) rfl⟩
        · refine CW.region ?_
          refine r_move rfl ?_
          refine r_move rfl ?_
          refine r_call rfl Try.call68 (by simp only [List.map_cons, List.map_nil, List.map_toArray, List.toList_toArray, upd_get, ev, Nat.reduceEqDiff, ↓reduceIte] <;> rfl) (Last_c _ _ (SH.rsO H (i := 2) rfl) (SH.prop H (i := 3) rfl) (by omega) (right_short hr2) hup2) ?_
          rintro _ w22_2 ⟨v22_2, g22_2, rfl, K⟩
          refine ⟨_, rfl, ?_⟩
          replace H := SH.call H K
          clear K
          try dsimp only [replC, List.cons_append, List.nil_append, List.append_nil] at H
          have hjc : p1 = (j : Int) := (find_key hsome).1
          rw [lastN_some hsome] at H ⊢
          dsimp only at H ⊢
          subst hjc
          refine r_move rfl ?_
          refine r_extract rfl (by simp only [upd_get, ev, Nat.reduceEqDiff, ↓reduceIte] <;> rfl) (by simp only [List.getElem?_toArray, List.getElem?_cons_zero, List.getElem?_cons_succ] <;> rfl) ?_
          refine r_extract rfl (by simp only [upd_get, ev, Nat.reduceEqDiff, ↓reduceIte] <;> rfl) (by simp only [List.getElem?_toArray, List.getElem?_cons_zero, List.getElem?_cons_succ] <;> rfl) ?_
          refine s_alloc (cs := [.int .i64 0, .int .i64 0, .int .i64 0, .int .i64 0, .int .i64 0, .slice none 0 0]) H rfl Try.zeroValue80 rfl ?_
          clear H
          intro b22_6 w22_6 H
          try dsimp only [replC, List.cons_append, List.nil_append, List.append_nil, agg, cellsL, Value.cells, List.toList_toArray, List.set_cons_zero, List.set_cons_succ, spliceL, List.take_succ_cons, List.take_zero, List.drop_succ_cons, List.drop_zero, List.length_cons, List.length_nil, Nat.reduceAdd, Row.cells, Gr.L, Rep.L, Mem.L, Ans.L, Act9.L] at H
          refine s_storeA H Try.sizeOf80 rfl (by simp only [upd_get, ev, Nat.reduceEqDiff, ↓reduceIte] <;> rfl) (by simp only [cellsL, agg, List.toList_toArray, Row.cells, Gr.L, Rep.L, Mem.L, Ans.L, Act9.L] <;> rfl) (by rfl) (by first | rfl | assumption | exact Rs.oneC (by first | assumption | exact SH.rsR H (by (repeat first | exact At.here | apply At.there); done) | exact SH.rsO H (by (repeat first | exact At.here | apply At.there); done) | exact (Rs.nil : Rs Non _ _ _)) | (simp only [List.all_cons, List.all_nil, Bool.and_true, Bool.and_eq_true, Row.cells, Gr.L, Rep.L, Mem.L, Ans.L, Act9.L]; (repeat' constructor) <;> first | rfl | assumption | exact Rs.oneC (by first | assumption | exact SH.rsR H (by (repeat first | exact At.here | apply At.there); done) | exact SH.rsO H (by (repeat first | exact At.here | apply At.there); done) | exact (Rs.nil : Rs Non _ _ _)))) (by (repeat first | exact At.here | apply At.there); done) (by first | (simp; done) | decide | (show _ ≤ _; decide)) ?_
          clear H
          intro w22_7 H
          try dsimp only [replC, List.cons_append, List.nil_append, List.append_nil, agg, cellsL, Value.cells, List.toList_toArray, List.set_cons_zero, List.set_cons_succ, spliceL, List.take_succ_cons, List.take_zero, List.drop_succ_cons, List.drop_zero, List.length_cons, List.length_nil, Nat.reduceAdd, Row.cells, Gr.L, Rep.L, Mem.L, Ans.L, Act9.L] at H
          refine r_assign rfl ?_
          refine LW.nil ?_
          refine thenE_norm ?_
          refine cut (K := K26) [0, 3, 4, 5, 8, 9, 10] (fun σ => ?_)
          simp only [setL, keepE, upd_get, ev, Nat.reduceEqDiff, ↓reduceIte]
          refine h26 _ _ ?_; clear h26; try clear K26
          refine CW.seq (fun K28 h28 => ?_)
          refine CW.drawP [1, 6] [] H (by dsimp only [pickC, nthC] <;> rfl) (by repeat first | exact List.Sublist.refl _ | exact List.nil_sublist _ | apply List.Sublist.cons_cons | apply List.Sublist.cons) (by kernel_rfl) rfl ?_
          clear H
          intro w23d H
          refine DL.take (i := 0) [] rfl (by kernel_rfl) (by kernel_rfl) (by kernel_rfl) (by kernel_rfl) rfl rfl (fun u H => x_move ) (SH.sub H (by repeat first | exact List.Sublist.refl _ | exact List.nil_sublist _ | apply List.Sublist.cons_cons | apply List.Sublist.cons)) ?_
          refine DL.take (i := 1) [] rfl (by kernel_rfl) (by kernel_rfl) (by kernel_rfl) (by kernel_rfl) rfl rfl (fun u H => x_move ) (SH.sub H (by repeat first | exact List.Sublist.refl _ | exact List.nil_sublist _ | apply List.Sublist.cons_cons | apply List.Sublist.cons)) ?_
          refine DL.take (i := 2) [] rfl (by kernel_rfl) (by kernel_rfl) (by kernel_rfl) (by kernel_rfl) rfl rfl (fun u H => x_indexAddrA Try.underlying97 rfl rfl (by exact Try.sizeOf66) (by omega) (by omega)) (SH.sub H (by repeat first | exact List.Sublist.refl _ | exact List.nil_sublist _ | apply List.Sublist.cons_cons | apply List.Sublist.cons)) ?_
          refine DL.take (i := 3) [] rfl (by kernel_rfl) (by kernel_rfl) (by kernel_rfl) (by kernel_rfl) rfl rfl (fun u H => x_fieldAddrO Try.underlying66 rfl Try.sizeOf3 (by decide) (show _ + 1 = _ from rfl) rfl) (SH.sub H (by repeat first | exact List.Sublist.refl _ | exact List.nil_sublist _ | apply List.Sublist.cons_cons | apply List.Sublist.cons)) ?_
          refine DL.take (i := 4) [] rfl (by kernel_rfl) (by kernel_rfl) (by kernel_rfl) (by kernel_rfl) rfl rfl (fun u H => x_load Try.isAgg3 rfl ((SH.blk H (i := 0) rfl).cell (o := 0 + ((j : Nat) : Int).toNat * 6 + 1) hc2)) (SH.sub H (by repeat first | exact List.Sublist.refl _ | exact List.nil_sublist _ | apply List.Sublist.cons_cons | apply List.Sublist.cons)) ?_
          refine DL.take (i := 5) [] rfl (by kernel_rfl) (by kernel_rfl) (by kernel_rfl) (by kernel_rfl) rfl rfl (fun u H => x_gtr rfl rfl) (SH.sub H (by repeat first | exact List.Sublist.refl _ | exact List.nil_sublist _ | apply List.Sublist.cons_cons | apply List.Sublist.cons)) ?_
          refine DL.take (i := 6) [] rfl (by kernel_rfl) (by kernel_rfl) (by kernel_rfl) (by kernel_rfl) rfl rfl (fun u H => x_neqB Try.underlying4 rfl rfl) (SH.sub H (by repeat first | exact List.Sublist.refl _ | exact List.nil_sublist _ | apply List.Sublist.cons_cons | apply List.Sublist.cons)) ?_
          refine DL.take (i := 7) [] rfl (by kernel_rfl) (by kernel_rfl) (by kernel_rfl) (by kernel_rfl) rfl rfl (fun u H => x_move ) (SH.sub H (by repeat first | exact List.Sublist.refl _ | exact List.nil_sublist _ | apply List.Sublist.cons_cons | apply List.Sublist.cons)) ?_
          refine DL.known (t := 87) (c := false) rfl (by simp; omega) (fun hg23_7 => ?_)
          refine DL.take (i := 8) [] rfl (by kernel_rfl) (by kernel_rfl) (by kernel_rfl) (by kernel_rfl) rfl (wantE rfl rfl hg23_7) (fun u H => x_move ) (SH.sub H (by repeat first | exact List.Sublist.refl _ | exact List.nil_sublist _ | apply List.Sublist.cons_cons | apply List.Sublist.cons)) ?_
          refine DL.take (i := 9) [] rfl (by kernel_rfl) (by kernel_rfl) (by kernel_rfl) (by kernel_rfl) rfl (wantE rfl rfl hg23_7) (fun u H => x_move ) (SH.sub H (by repeat first | exact List.Sublist.refl _ | exact List.nil_sublist _ | apply List.Sublist.cons_cons | apply List.Sublist.cons)) ?_
          refine DL.known (t := 89) (c := true) rfl (by first | rfl | (simp only [decide_eq_true_eq, decide_eq_false_iff_not, Bool.and_eq_true, Bool.or_eq_true, Bool.and_eq_false_iff, Bool.or_eq_false_iff, Bool.not_eq_true', Bool.not_eq_false', beq_iff_eq, bne_iff_ne]; omega) | simp_all) (fun hg23_9 => ?_)
          refine DL.take (i := 10) [] rfl (by kernel_rfl) (by kernel_rfl) (by kernel_rfl) (by kernel_rfl) rfl (wantE rfl rfl hg23_9) (fun u H => x_fieldAddrO Try.underlying80 rfl Try.sizeOf3 (by decide) (show _ = 0 from rfl) rfl) (SH.sub H (by repeat first | exact List.Sublist.refl _ | exact List.nil_sublist _ | apply List.Sublist.cons_cons | apply List.Sublist.cons)) ?_
          refine DL.take (i := 11) [] rfl (by kernel_rfl) (by kernel_rfl) (by kernel_rfl) (by kernel_rfl) rfl (wantE rfl rfl hg23_9) (fun u H => x_load Try.isAgg3 rfl (SH.cellB H (i := 1) (o := 0) rfl rfl)) (SH.sub H (by repeat first | exact List.Sublist.refl _ | exact List.nil_sublist _ | apply List.Sublist.cons_cons | apply List.Sublist.cons)) ?_
          refine DL.take (i := 12) [] rfl (by kernel_rfl) (by kernel_rfl) (by kernel_rfl) (by kernel_rfl) rfl (wantE rfl rfl hg23_9) (fun u H => x_move ) (SH.sub H (by repeat first | exact List.Sublist.refl _ | exact List.nil_sublist _ | apply List.Sublist.cons_cons | apply List.Sublist.cons)) ?_
          refine DL.take (i := 13) [] rfl (by kernel_rfl) (by kernel_rfl) (by kernel_rfl) (by kernel_rfl) rfl (wantE rfl rfl hg23_9) (fun u H => x_neq rfl rfl) (SH.sub H (by repeat first | exact List.Sublist.refl _ | exact List.nil_sublist _ | apply List.Sublist.cons_cons | apply List.Sublist.cons)) ?_
          refine DL.take (i := 14) [] rfl (by kernel_rfl) (by kernel_rfl) (by kernel_rfl) (by kernel_rfl) rfl (wantE rfl rfl hg23_9) (fun u H => x_move ) (SH.sub H (by repeat first | exact List.Sublist.refl _ | exact List.nil_sublist _ | apply List.Sublist.cons_cons | apply List.Sublist.cons)) ?_
          refine DL.known (t := 94) (c := false) rfl (by simp) (fun hg23_14 => ?_)
          refine DL.take (i := 15) [] rfl (by kernel_rfl) (by kernel_rfl) (by kernel_rfl) (by kernel_rfl) rfl (wantE rfl rfl hg23_14) (fun u H => x_fieldAddrO Try.underlying80 rfl Try.sizeOf3 (by decide) (show _ = 1 from rfl) rfl) (SH.sub H (by repeat first | exact List.Sublist.refl _ | exact List.nil_sublist _ | apply List.Sublist.cons_cons | apply List.Sublist.cons)) ?_
          refine DL.take (i := 16) [] rfl (by kernel_rfl) (by kernel_rfl) (by kernel_rfl) (by kernel_rfl) rfl (wantE rfl rfl hg23_14) (fun u H => x_load Try.isAgg3 rfl (SH.cellB H (i := 1) (o := 1) rfl rfl)) (SH.sub H (by repeat first | exact List.Sublist.refl _ | exact List.nil_sublist _ | apply List.Sublist.cons_cons | apply List.Sublist.cons)) ?_
          refine DL.take (i := 17) [] rfl (by kernel_rfl) (by kernel_rfl) (by kernel_rfl) (by kernel_rfl) rfl (wantE rfl rfl hg23_14) (fun u H => x_move ) (SH.sub H (by repeat first | exact List.Sublist.refl _ | exact List.nil_sublist _ | apply List.Sublist.cons_cons | apply List.Sublist.cons)) ?_
          refine DL.take (i := 18) [] rfl (by kernel_rfl) (by kernel_rfl) (by kernel_rfl) (by kernel_rfl) rfl (wantE rfl rfl hg23_14) (fun u H => x_indexAddrA Try.underlying97 rfl rfl (by exact Try.sizeOf66) (by omega) (by omega)) (SH.sub H (by repeat first | exact List.Sublist.refl _ | exact List.nil_sublist _ | apply List.Sublist.cons_cons | apply List.Sublist.cons)) ?_
          refine DL.take (i := 19) [] rfl (by kernel_rfl) (by kernel_rfl) (by kernel_rfl) (by kernel_rfl) rfl (wantE rfl rfl hg23_14) (fun u H => x_fieldAddrO Try.underlying66 rfl Try.sizeOf3 (by decide) (show _ + 1 = _ from rfl) rfl) (SH.sub H (by repeat first | exact List.Sublist.refl _ | exact List.nil_sublist _ | apply List.Sublist.cons_cons | apply List.Sublist.cons)) ?_
          refine DL.take (i := 20) [] rfl (by kernel_rfl) (by kernel_rfl) (by kernel_rfl) (by kernel_rfl) rfl (wantE rfl rfl hg23_14) (fun u H => x_load Try.isAgg3 rfl ((SH.blk H (i := 0) rfl).cell (o := 0 + ((j : Nat) : Int).toNat * 6 + 1) hc2)) (SH.sub H (by repeat first | exact List.Sublist.refl _ | exact List.nil_sublist _ | apply List.Sublist.cons_cons | apply List.Sublist.cons)) ?_
          refine DL.take (i := 21) [] rfl (by kernel_rfl) (by kernel_rfl) (by kernel_rfl) (by kernel_rfl) rfl (wantE rfl rfl hg23_14) (fun u H => x_neq rfl rfl) (SH.sub H (by repeat first | exact List.Sublist.refl _ | exact List.nil_sublist _ | apply List.Sublist.cons_cons | apply List.Sublist.cons)) ?_
          refine DL.take (i := 22) [] rfl (by kernel_rfl) (by kernel_rfl) (by kernel_rfl) (by kernel_rfl) rfl (wantE rfl rfl hg23_9) (fun u H => x_pickF rfl hg23_14) (SH.sub H (by repeat first | exact List.Sublist.refl _ | exact List.nil_sublist _ | apply List.Sublist.cons_cons | apply List.Sublist.cons)) ?_
          refine DL.take (i := 23) [] rfl (by kernel_rfl) (by kernel_rfl) (by kernel_rfl) (by kernel_rfl) rfl (wantE rfl rfl hg23_9) (fun u H => x_move ) (SH.sub H (by repeat first | exact List.Sublist.refl _ | exact List.nil_sublist _ | apply List.Sublist.cons_cons | apply List.Sublist.cons)) ?_
          refine DL.known (t := 103) (c := false) rfl (by simp) (fun hg23_23 => ?_)
          refine DL.take (i := 24) [] rfl (by kernel_rfl) (by kernel_rfl) (by kernel_rfl) (by kernel_rfl) rfl (wantE rfl rfl hg23_23) (fun u H => x_fieldAddrO Try.underlying80 rfl Try.sizeOf50 (by decide) (show _ = 2 from rfl) rfl) (SH.sub H (by repeat first | exact List.Sublist.refl _ | exact List.nil_sublist _ | apply List.Sublist.cons_cons | apply List.Sublist.cons)) ?_
          refine DL.take (i := 25) [] rfl (by kernel_rfl) (by kernel_rfl) (by kernel_rfl) (by kernel_rfl) rfl (wantE rfl rfl hg23_23) (fun u H => x_loadA Try.isAgg50 Try.sizeOf50 rfl (SH.partOf (o := 2) (n := 4) H (i := 1) rfl (by rfl)) rfl) (SH.sub H (by repeat first | exact List.Sublist.refl _ | exact List.nil_sublist _ | apply List.Sublist.cons_cons | apply List.Sublist.cons)) ?_
          refine DL.take (i := 26) [] rfl (by kernel_rfl) (by kernel_rfl) (by kernel_rfl) (by kernel_rfl) rfl (wantE rfl rfl hg23_23) (fun u H => x_move ) (SH.sub H (by repeat first | exact List.Sublist.refl _ | exact List.nil_sublist _ | apply List.Sublist.cons_cons | apply List.Sublist.cons)) ?_
          refine DL.take (i := 27) [] rfl (by kernel_rfl) (by kernel_rfl) (by kernel_rfl) (by kernel_rfl) rfl (wantE rfl rfl hg23_23) (fun u H => x_indexAddrA Try.underlying97 rfl rfl (by exact Try.sizeOf66) (by omega) (by omega)) (SH.sub H (by repeat first | exact List.Sublist.refl _ | exact List.nil_sublist _ | apply List.Sublist.cons_cons | apply List.Sublist.cons)) ?_
          refine DL.take (i := 28) [] rfl (by kernel_rfl) (by kernel_rfl) (by kernel_rfl) (by kernel_rfl) rfl (wantE rfl rfl hg23_23) (fun u H => x_fieldAddrO Try.underlying66 rfl Try.sizeOf50 (by decide) (show _ + 2 = _ from rfl) rfl) (SH.sub H (by repeat first | exact List.Sublist.refl _ | exact List.nil_sublist _ | apply List.Sublist.cons_cons | apply List.Sublist.cons)) ?_
          refine DL.take (i := 29) [] rfl (by kernel_rfl) (by kernel_rfl) (by kernel_rfl) (by kernel_rfl) rfl (wantE rfl rfl hg23_23) (fun u H => x_loadA Try.isAgg50 Try.sizeOf50 rfl (SH.partOf (n := 4) H (i := 0) rfl hc3) rfl) (SH.sub H (by repeat first | exact List.Sublist.refl _ | exact List.nil_sublist _ | apply List.Sublist.cons_cons | apply List.Sublist.cons)) ?_
          refine DL.one (i := 30) (by kernel_rfl) rfl (wantE rfl rfl hg23_23) ?_
          refine r_call rfl Try.call37 (by simp only [List.map_cons, List.map_nil, List.map_toArray, List.toList_toArray, upd_get, ev, Nat.reduceEqDiff, ↓reduceIte] <;> rfl) (SameRep_c (F := fun b => g22_2 = some b) (G := FQ') (gs := n6) (hs := n6) ⟨_, _, _, _⟩ ⟨_, _, _, _⟩ _ (SH.rsO H (i := 5) rfl) (by
  obtain ⟨mm, hmm, hrr⟩ := All2.get (SH.prop H (i := 4) rfl) hpk2
  rw [hn'] at hmm
  cases hmm
  exact hrr.2.2.2.2.2)) ?_
          rintro _ w23_30 ⟨rfl, X⟩
          refine ⟨_, rfl, ?_⟩
          replace H := SH.same H X
          clear X
          refine LW.nil (thenE_norm ⟨fun _ => (SH.sub H (by repeat first | exact List.Sublist.refl _ | exact List.nil_sublist _ | apply List.Sublist.cons_cons | apply List.Sublist.cons)), ?_⟩)
          refine DL.take (i := 31) [] rfl (by kernel_rfl) (by kernel_rfl) (by kernel_rfl) (by kernel_rfl) rfl (wantE rfl rfl hg23_23) (fun u H => x_not rfl) (SH.sub H (by repeat first | exact List.Sublist.refl _ | exact List.nil_sublist _ | apply List.Sublist.cons_cons | apply List.Sublist.cons)) ?_
          refine DL.take (i := 32) [] rfl (by kernel_rfl) (by kernel_rfl) (by kernel_rfl) (by kernel_rfl) rfl (wantE rfl rfl hg23_9) (fun u H => x_pickF rfl hg23_23) (SH.sub H (by repeat first | exact List.Sublist.refl _ | exact List.nil_sublist _ | apply List.Sublist.cons_cons | apply List.Sublist.cons)) ?_
          refine DL.take (i := 33) [] rfl (by kernel_rfl) (by kernel_rfl) (by kernel_rfl) (by kernel_rfl) rfl (wantE rfl rfl hg23_7) (fun u H => x_pickT rfl hg23_9) (SH.sub H (by repeat first | exact List.Sublist.refl _ | exact List.nil_sublist _ | apply List.Sublist.cons_cons | apply List.Sublist.cons)) ?_
          refine DL.take (i := 34) [] rfl (by kernel_rfl) (by kernel_rfl) (by kernel_rfl) (by kernel_rfl) rfl rfl (fun u H => x_pickF rfl hg23_7) (SH.sub H (by repeat first | exact List.Sublist.refl _ | exact List.nil_sublist _ | apply List.Sublist.cons_cons | apply List.Sublist.cons)) ?_
          refine DL.done (by kernel_rfl) ?_
          refine thenE_norm ?_
          refine cut (K := K28) [0, 3, 4, 5, 8, 114] (fun σ => ?_)
          simp only [setL, keepE, upd_get, ev, Nat.reduceEqDiff, ↓reduceIte]
          refine h28 _ _ ?_; clear h28; try clear K28
          refine CW.condF rfl (by simp [sameRep]) ?_
          refine CW.skip ?_
          refine blockE_norm ?_
          refine thenE_norm (h25 _ _ ?_); clear h25; try clear K25
          refine CW.region ?_
          refine r_move rfl ?_
          refine r_add rfl rfl rfl (wr_i64 (by omega) (by omega)) ?_
          refine r_assign rfl ?_
          refine LW.nil ?_
          refine thenE_norm ⟨rfl, ?_⟩
          exact ⟨8 - (j + 1), by omega, j + 1, rfl, by omega, rfl, SH.sel H [0, 1, 2, 3, 4] (by decide) rfl⟩
      · try simp only [decide_eq_true_eq, decide_eq_false_iff_not, Bool.and_eq_true, Bool.or_eq_true, Bool.and_eq_false_iff, Bool.or_eq_false_iff, Bool.not_eq_true', Bool.not_eq_false', beq_iff_eq, bne_iff_ne, ne_eq, Decidable.not_not] at hc7
        refine CW.exit (thenE_exit (thenE_exit (blockE_hit ?_)))
        refine blockE_norm ?_
        refine thenE_norm (h11 _ _ ?_); clear h11; try clear K11
        refine CW.region ?_
        refine r_move rfl ?_
        refine r_add rfl rfl rfl (wr_i64 (by omega) (by omega)) ?_
        refine r_assign rfl ?_
        refine LW.nil ?_
        refine thenE_norm ⟨rfl, ?_⟩
        exact ⟨acts.length - (i + 1), by omega, i + 1, _, _, _, _, _, _, _, _, rfl, by omega, rfl, by omega, hr2, hnw', H⟩
    · try simp only [decide_eq_true_eq, decide_eq_false_iff_not, Bool.and_eq_true, Bool.or_eq_true, Bool.and_eq_false_iff, Bool.or_eq_false_iff, Bool.not_eq_true', Bool.not_eq_false', beq_iff_eq, bne_iff_ne, ne_eq, Decidable.not_not] at hc2
      refine CW.exit (thenE_exit (thenE_exit (blockE_hit ?_)))
      refine thenE_norm (h7 _ _ ?_); clear h7; try clear K7
      refine CW.seq (fun K29 h29 => ?_)
      refine CW.region ?_
      refine r_move rfl ?_
      refine r_call rfl Try.call60 (by simp only [List.map_cons, List.map_nil, List.map_toArray, List.toList_toArray, upd_get, ev, Nat.reduceEqDiff, ↓reduceIte] <;> rfl) (Right_c _ (SH.rsO H (i := 2) rfl) (SH.prop H (i := 3) rfl) (right_small hr)) ?_
      rintro _ w25_1 ⟨rfl, X⟩
      refine ⟨_, rfl, ?_⟩
      replace H := SH.same H X
      clear X
      refine r_move rfl ?_
      refine LW.known (t := 117) (c := true) rfl (by rw [hr]) (fun hg25_3 => ?_)
      refine LW.want rfl rfl hg25_3 ?_
      refine r_call rfl Try.call59 (by simp only [List.map_cons, List.map_nil, List.map_toArray, List.toList_toArray, upd_get, ev, Nat.reduceEqDiff, ↓reduceIte] <;> rfl) (awake9_c _) ?_
      rintro _ w25_3 ⟨rfl, X⟩
      refine ⟨_, rfl, ?_⟩
      replace H := SH.same H X
      clear X
      refine r_pickT rfl rfl hg25_3 ?_
      refine r_assign rfl ?_
      refine LW.nil ?_
      refine thenE_norm ?_
      refine cut (K := K29) [2] (fun σ => ?_)
      simp only [setL, keepE, upd_get, ev, Nat.reduceEqDiff, ↓reduceIte]
      refine h29 _ _ ?_; clear h29; try clear K29
      refine CW.ret (ret1 Try.results16 (by simp only [upd_get, ev, Nat.reduceEqDiff, ↓reduceIte]; rfl) ?_)
      exact ⟨rfl, H.ext⟩
end Go.Proofs.Ytlfbofnfhhddbaa
