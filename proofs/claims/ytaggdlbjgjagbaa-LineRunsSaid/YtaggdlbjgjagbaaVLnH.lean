/-
  The walks of layer 7's laws, the fourth part.
-/
import Derived.Test.YtaggdlbjgjagbaaVLnG
import Derived.Test.YtaggdlbjgjagbaaVOpen
namespace Go.Proofs.Ytaggdlbjgjagbaa
set_option linter.unusedSimpArgs false
set_option linter.unusedVariables false
open Go.V Go.RowKit Go.ChangeShapes Go.WideShapes

/-- Something that is done to a line. -/
structure Act7 where
  doing : Int
  client : Int
def Act7.L (a : Act7) : List Value := [.int .i64 a.doing, .int .i64 a.client]
instance : Row Act7 := ⟨2, Act7.L, ⟨0, 0⟩, fun _ => rfl, rfl⟩
def Act7.Good (w : World) (a : Act7) : Prop := I64 a.doing ∧ I64 a.client
theorem Act7.opens : Opens Try.prog (α := Act7) 44 Act7.Good := fun H enc w base spare held fuel cs x hl h => by
  obtain ⟨u0, u1, rfl⟩ := list2 hl
  obtain ⟨m0, hf0⟩ := open_fields Try.underlying44 h
  obtain ⟨y0, t0⟩ := hf0 0 _ 1 rfl (by kernel_rfl)
  obtain ⟨a0, e0, -, w0⟩ := DataW.trod_int Try.underlying3 t0
  obtain rfl : u0 = _ := by simpa using e0
  obtain ⟨y1, t1⟩ := hf0 1 _ 1 rfl (by kernel_rfl)
  obtain ⟨a1, e1, -, w1⟩ := DataW.trod_int Try.underlying3 t1
  obtain rfl : u1 = _ := by simpa using e1
  exact ⟨⟨a0, a1⟩, rfl, (by first | rfl | (simp only [Row.cells, Act7.L] at *; simp_all [V.oneC])), ⟨i64_wf w0, i64_wf w1⟩⟩

theorem tail_ok {x : Int} {r : List Int} (h : lineOk (x :: r)) : lineOk r := ⟨fun c hc => h.1 c (List.mem_cons_of_mem _ hc), (List.nodup_cons.1 h.2).2⟩
theorem filter_ok {xs : List Int} (p : Int → Bool) (h : lineOk xs) : lineOk (xs.filter p) := ⟨fun c hc => h.1 c (List.mem_filter.1 hc).1, h.2.filter p⟩

set_option maxHeartbeats 4000000 in
theorem LineRuns_c {F G : Nat → Prop} {v gv : Value} {acts : List Act7} {gs : List Int} (w : World) (hv : Rs F w v acts) (hg : Rs G w gv gs) :
    Calls Try.prog 7 #[v, gv] w fun e w' => e = .returned (.bool true) ∧ Ext0 w w' := by
  have H := ((SH.start w).arg hv).arg hg
  have h63 := hv.len63
  have h64 := hg.len63
  refine calls_of_CW Try.func7 rfl Try.ntmps7 (Nat.le_of_ble_eq_true rfl) ?_
  simp only [argE, argFrom, Nat.reduceAdd]
  refine CW.seq (fun K1 h1 => ?_)
  refine CW.region ?_
  refine r_assign rfl ?_
  refine LW.nil ?_
  refine thenE_norm (h1 _ _ ?_); clear h1; try clear K1
  refine CW.seq (fun K2 h2 => ?_)
  refine CW.seq (fun K3 h3 => ?_)
  refine CW.region ?_
  refine r_move rfl ?_
  first
    | refine r_lenV rfl Try.underlying42 (by simp only [upd_get, ev, Nat.reduceEqDiff, ↓reduceIte] <;> rfl) (by first | assumption | exact SH.rsR H (by repeat first | exact At.here | apply At.there) | exact SH.rsO H (by repeat first | exact At.here | apply At.there) | exact Rs.toH (by first | assumption | exact SH.rsR H (by repeat first | exact At.here | apply At.there) | exact SH.rsO H (by repeat first | exact At.here | apply At.there)) (by omega) | exact Rs.toL (by first | assumption | exact SH.rsR H (by repeat first | exact At.here | apply At.there) | exact SH.rsO H (by repeat first | exact At.here | apply At.there)) (by omega) | exact Rs.toLH (by first | assumption | exact SH.rsR H (by repeat first | exact At.here | apply At.there) | exact SH.rsO H (by repeat first | exact At.here | apply At.there)) (by omega) (by omega)) ?_
    | refine r_len rfl Try.underlying42 rfl ?_
  refine r_gtr rfl rfl rfl ?_
  refine r_move rfl ?_
  refine' LW.grpOr (n := 4) (ts := [0, 1]) (d := 32) (tj := 28) rfl (fun hg1_4 => ?_) (fun hg1_4 => ?_) (fun σ => ?_)
  rotate_left
  · simp only [List.take_succ_cons, List.take_zero]
    have hg1_4P := hg1_4
    try simp only [decide_eq_true_eq, decide_eq_false_iff_not, Bool.and_eq_true, Bool.or_eq_true, Bool.and_eq_false_iff, Bool.or_eq_false_iff, Bool.not_eq_true', Bool.not_eq_false', beq_iff_eq, bne_iff_ne] at hg1_4P
    refine LW.want rfl rfl hg1_4 ?_
    refine r_move rfl ?_
    refine LW.want rfl rfl hg1_4 ?_
    first
      | refine r_lenV rfl Try.underlying22 (by simp only [upd_get, ev, Nat.reduceEqDiff, ↓reduceIte] <;> rfl) (by first | assumption | exact SH.rsR H (by repeat first | exact At.here | apply At.there) | exact SH.rsO H (by repeat first | exact At.here | apply At.there) | exact Rs.toH (by first | assumption | exact SH.rsR H (by repeat first | exact At.here | apply At.there) | exact SH.rsO H (by repeat first | exact At.here | apply At.there)) (by omega) | exact Rs.toL (by first | assumption | exact SH.rsR H (by repeat first | exact At.here | apply At.there) | exact SH.rsO H (by repeat first | exact At.here | apply At.there)) (by omega) | exact Rs.toLH (by first | assumption | exact SH.rsR H (by repeat first | exact At.here | apply At.there) | exact SH.rsO H (by repeat first | exact At.here | apply At.there)) (by omega) (by omega)) ?_
      | refine r_len rfl Try.underlying22 rfl ?_
    refine LW.want rfl rfl hg1_4 ?_
    refine r_gtr rfl rfl rfl ?_
    refine r_pickF rfl rfl hg1_4 ?_
    refine LW.nil (thenE_norm ⟨rfl, rfl, rfl⟩)
  · simp only [List.take_succ_cons, List.take_zero]
    refine LW.skip rfl (fun _ e => by cases e; decide) rfl hg1_4 ?_
    refine LW.skip rfl (fun _ e => by cases e; decide) rfl hg1_4 ?_
    refine LW.skip rfl (fun _ e => by cases e; decide) rfl hg1_4 ?_
    refine r_pickT rfl rfl hg1_4 ?_
    refine LW.nil (thenE_norm ⟨rfl, rfl, rfl⟩)
  simp only [setL, keepE, upd_get, ev, Nat.reduceEqDiff, ↓reduceIte]; simp only [List.drop_succ_cons, List.drop_zero]
  refine LW.nil ?_
  refine thenE_norm (h3 _ _ ?_); clear h3; try clear K3
  refine CW.cond rfl (fun hc1 => ?_) (fun hc1 => ?_)
  · try simp only [decide_eq_true_eq, decide_eq_false_iff_not, Bool.and_eq_true, Bool.or_eq_true, Bool.and_eq_false_iff, Bool.or_eq_false_iff, Bool.not_eq_true', Bool.not_eq_false', beq_iff_eq, bne_iff_ne, ne_eq, Decidable.not_not] at hc1
    refine CW.seq (fun K4 h4 => ?_)
    refine CW.region ?_
    refine r_call rfl Try.call14 (by simp only [List.map_cons, List.map_nil, List.map_toArray, List.toList_toArray, upd_get, ev, Nat.reduceEqDiff, ↓reduceIte] <;> rfl) (awake7_c _) ?_
    rintro _ w2_0 ⟨rfl, X⟩
    refine ⟨_, rfl, ?_⟩
    replace H := SH.same H X
    clear X
    refine r_assign rfl ?_
    refine LW.nil ?_
    refine thenE_norm (h4 _ _ ?_); clear h4; try clear K4
    refine CW.ret (thenE_ret (ret1 Try.results7 (by simp only [upd_get, ev, Nat.reduceEqDiff, ↓reduceIte]; rfl) ?_))
    exact ⟨rfl, H.ext⟩
  · try simp only [decide_eq_true_eq, decide_eq_false_iff_not, Bool.and_eq_true, Bool.or_eq_true, Bool.and_eq_false_iff, Bool.or_eq_false_iff, Bool.not_eq_true', Bool.not_eq_false', beq_iff_eq, bne_iff_ne, ne_eq, Decidable.not_not] at hc1
    refine CW.skip ?_
    refine thenE_norm (h2 _ _ ?_); clear h2; try clear K2
    refine CW.seq (fun K5 h5 => ?_)
    refine CW.region ?_
    refine r_assign rfl ?_
    refine LW.nil ?_
    refine thenE_norm (h5 _ _ ?_); clear h5; try clear K5
    refine CW.seq (fun K6 h6 => ?_)
    refine CW.seq (fun K7 h7 => ?_)
    refine CW.region ?_
    refine r_assign rfl ?_
    refine LW.nil ?_
    refine thenE_norm (h7 _ _ ?_); clear h7; try clear K7
    refine CW.block ?_
    refine CW.loopR [0, 1] [5, 6] (fun m vs w' => ∃ (i : Nat) (u : Value) (K : Nat → Prop) (xs : List Int), vs = [u, .int .i64 i] ∧ i ≤ acts.length ∧ m = acts.length - i ∧ lineOk xs ∧ xs.length ≤ 3 ∧ SH Non Any w w' [.R (Old w) v acts, .R (Old w) gv gs, .R K u xs]) (acts.length) ?_ ?_
    · exact ⟨0, .slice none 0 0, _, [], rfl, by omega, by omega, by simp [lineOk], by simp, SH.freeze (H.addO (α := Int) 3) (i := 2) rfl⟩
    try clear H
    rintro n1 vs1 wL1 σ ⟨i, u, M, xs, rfl, hi, rfl, hok, hx3, H⟩
    simp only [setL, keepE, upd_get, ev, Nat.reduceEqDiff, ↓reduceIte]
    refine CW.seq (fun K8 h8 => ?_)
    refine CW.seq (fun K9 h9 => ?_)
    refine CW.region ?_
    refine r_move rfl ?_
    refine r_move rfl ?_
    first
      | refine r_lenV rfl Try.underlying42 (by simp only [upd_get, ev, Nat.reduceEqDiff, ↓reduceIte] <;> rfl) (by first | assumption | exact SH.rsR H (by repeat first | exact At.here | apply At.there) | exact SH.rsO H (by repeat first | exact At.here | apply At.there) | exact Rs.toH (by first | assumption | exact SH.rsR H (by repeat first | exact At.here | apply At.there) | exact SH.rsO H (by repeat first | exact At.here | apply At.there)) (by omega) | exact Rs.toL (by first | assumption | exact SH.rsR H (by repeat first | exact At.here | apply At.there) | exact SH.rsO H (by repeat first | exact At.here | apply At.there)) (by omega) | exact Rs.toLH (by first | assumption | exact SH.rsR H (by repeat first | exact At.here | apply At.there) | exact SH.rsO H (by repeat first | exact At.here | apply At.there)) (by omega) (by omega)) ?_
      | refine r_len rfl Try.underlying42 rfl ?_
    refine r_lss rfl rfl rfl ?_
    refine LW.nil ?_
    refine thenE_norm (h9 _ _ ?_); clear h9; try clear K9
    refine CW.cond rfl (fun hc2 => ?_) (fun hc2 => ?_)
    · try simp only [decide_eq_true_eq, decide_eq_false_iff_not, Bool.and_eq_true, Bool.or_eq_true, Bool.and_eq_false_iff, Bool.or_eq_false_iff, Bool.not_eq_true', Bool.not_eq_false', beq_iff_eq, bne_iff_ne, ne_eq, Decidable.not_not] at hc2
      refine CW.skip ?_
      refine thenE_norm (h8 _ _ ?_); clear h8; try clear K8
      refine CW.seq (fun K10 h10 => ?_)
      refine CW.block ?_
      refine CW.seq (fun K11 h11 => ?_)
      obtain ⟨⟨ado, c⟩, hx⟩ := get_of_lt (show i < acts.length by omega)
      have hmm : rightM xs = true := by rw [rightM, decide_eq_true hok, decide_eq_true hx3]; rfl
      refine CW.region ?_
      refine r_move rfl ?_
      refine r_move rfl ?_
      refine r_indexAddrV rfl Try.underlying42 (by simp only [upd_get, ev, Nat.reduceEqDiff, ↓reduceIte] <;> rfl) rfl (by first | assumption | exact SH.rsR H (by repeat first | exact At.here | apply At.there) | exact SH.rsO H (by repeat first | exact At.here | apply At.there) | exact Rs.toH (by first | assumption | exact SH.rsR H (by repeat first | exact At.here | apply At.there) | exact SH.rsO H (by repeat first | exact At.here | apply At.there)) (by omega) | exact Rs.toL (by first | assumption | exact SH.rsR H (by repeat first | exact At.here | apply At.there) | exact SH.rsO H (by repeat first | exact At.here | apply At.there)) (by omega) | exact Rs.toLH (by first | assumption | exact SH.rsR H (by repeat first | exact At.here | apply At.there) | exact SH.rsO H (by repeat first | exact At.here | apply At.there)) (by omega) (by omega)) (by exact Try.sizeOf44) (by omega) (by omega) ?_
      refine r_fieldAddr rfl Try.underlying44 rfl Try.sizeOf3 (by decide) rfl ?_
      refine r_load rfl Try.isAgg3 rfl (Rs.cell (by exact SH.rsR H (i := 0) rfl) hx rfl) ?_
      refine r_assign rfl ?_
      refine LW.nil ?_
      refine thenE_norm ?_
      refine cut (K := K11) [0, 1, 5, 6, 7] (fun σ => ?_)
      simp only [setL, keepE, upd_get, ev, Nat.reduceEqDiff, ↓reduceIte]
      refine h11 _ _ ?_; clear h11; try clear K11
      refine CW.seqJ [0, 1, 6, 7] [5] (fun vs w' => ∃ (u : Value) (K : Nat → Prop) (xs : List Int), vs = [u] ∧ lineOk xs ∧ xs.length ≤ 3 ∧ SH Non Any w w' [.R (Old w) v acts, .R (Old w) gv gs, .R K u xs]) ?_ ?_
      · refine CW.seq (fun K13 h13 => ?_)
        refine CW.region ?_
        refine r_move rfl ?_
        refine r_move rfl ?_
        refine r_indexAddrV rfl Try.underlying42 (by simp only [upd_get, ev, Nat.reduceEqDiff, ↓reduceIte] <;> rfl) rfl (by first | assumption | exact SH.rsR H (by repeat first | exact At.here | apply At.there) | exact SH.rsO H (by repeat first | exact At.here | apply At.there) | exact Rs.toH (by first | assumption | exact SH.rsR H (by repeat first | exact At.here | apply At.there) | exact SH.rsO H (by repeat first | exact At.here | apply At.there)) (by omega) | exact Rs.toL (by first | assumption | exact SH.rsR H (by repeat first | exact At.here | apply At.there) | exact SH.rsO H (by repeat first | exact At.here | apply At.there)) (by omega) | exact Rs.toLH (by first | assumption | exact SH.rsR H (by repeat first | exact At.here | apply At.there) | exact SH.rsO H (by repeat first | exact At.here | apply At.there)) (by omega) (by omega)) (by exact Try.sizeOf44) (by omega) (by omega) ?_
        refine r_fieldAddr rfl Try.underlying44 rfl Try.sizeOf3 (by decide) rfl ?_
        refine r_load rfl Try.isAgg3 rfl (Rs.cell (o := 0) (by exact SH.rsR H (i := 0) rfl) hx rfl) ?_
        refine LW.nil ?_
        refine thenE_norm (h13 _ _ ?_); clear h13; try clear K13
        refine CW.block ?_
        refine CW.seq (fun K14 h14 => ?_)
        refine CW.region ?_
        refine r_eql rfl rfl rfl ?_
        refine r_assign rfl ?_
        refine LW.nil ?_
        refine thenE_norm (h14 _ _ ?_); clear h14; try clear K14
        refine CW.cond rfl (fun hc3 => ?_) (fun hc3 => ?_)
        · try simp only [decide_eq_true_eq, decide_eq_false_iff_not, Bool.and_eq_true, Bool.or_eq_true, Bool.and_eq_false_iff, Bool.or_eq_false_iff, Bool.not_eq_true', Bool.not_eq_false', beq_iff_eq, bne_iff_ne, ne_eq, Decidable.not_not] at hc3
          refine CW.seq (fun K15 h15 => ?_)
          refine CW.region ?_
          refine r_move rfl ?_
          refine r_move rfl ?_
          refine r_call rfl Try.call17 (by simp only [List.map_cons, List.map_nil, List.map_toArray, List.toList_toArray, upd_get, ev, Nat.reduceEqDiff, ↓reduceIte] <;> rfl) (Join_c _ _ (by exact SH.rsR H (i := 2) rfl)) ?_
          rintro _ w15_2 ⟨v15_2, g15_2, rfl, K⟩
          refine ⟨_, rfl, ?_⟩
          replace H := SH.call H K
          clear K
          try dsimp only [replC, List.cons_append, List.nil_append, List.append_nil, Value.cells, List.set_cons_zero, List.set_cons_succ] at H
          refine r_move rfl ?_
          refine r_extract rfl (by simp only [upd_get, ev, Nat.reduceEqDiff, ↓reduceIte] <;> rfl) (by simp only [List.getElem?_toArray, List.getElem?_cons_zero, List.getElem?_cons_succ] <;> rfl) ?_
          refine r_extract rfl (by simp only [upd_get, ev, Nat.reduceEqDiff, ↓reduceIte] <;> rfl) (by simp only [List.getElem?_toArray, List.getElem?_cons_zero, List.getElem?_cons_succ] <;> rfl) ?_
          refine r_extract rfl (by simp only [upd_get, ev, Nat.reduceEqDiff, ↓reduceIte] <;> rfl) (by simp only [List.getElem?_toArray, List.getElem?_cons_zero, List.getElem?_cons_succ] <;> rfl) ?_
          refine r_assign rfl ?_
          refine r_assign rfl ?_
          refine r_assign rfl ?_
          refine LW.nil ?_
          refine thenE_norm ?_
          refine cut (K := K15) [0, 1, 5, 6, 7, 8, 9, 10] (fun σ => ?_)
          simp only [setL, keepE, upd_get, ev, Nat.reduceEqDiff, ↓reduceIte]
          refine h15 _ _ ?_; clear h15; try clear K15
          refine CW.seq (fun K16 h16 => ?_)
          refine CW.region ?_
          refine r_move rfl ?_
          refine r_move rfl ?_
          refine r_call rfl Try.call25 (by simp only [List.map_cons, List.map_nil, List.map_toArray, List.toList_toArray, upd_get, ev, Nat.reduceEqDiff, ↓reduceIte] <;> rfl) (JoinR_c _ _ (by exact SH.rsR H (i := 2) rfl)) ?_
          rintro _ w16_2 ⟨v16_2, g16_2, rfl, K⟩
          refine ⟨_, rfl, ?_⟩
          replace H := SH.call H K
          clear K
          try dsimp only [replC, List.cons_append, List.nil_append, List.append_nil, Value.cells, List.set_cons_zero, List.set_cons_succ] at H
          have hjo := join_ok (c := c) hok
          generalize hJ : joinM xs c = J at *
          obtain ⟨J1, J2, J3⟩ := J
          dsimp only at H hjo ⊢
          refine r_move rfl ?_
          refine r_extract rfl (by simp only [upd_get, ev, Nat.reduceEqDiff, ↓reduceIte] <;> rfl) (by simp only [List.getElem?_toArray, List.getElem?_cons_zero, List.getElem?_cons_succ] <;> rfl) ?_
          refine r_extract rfl (by simp only [upd_get, ev, Nat.reduceEqDiff, ↓reduceIte] <;> rfl) (by simp only [List.getElem?_toArray, List.getElem?_cons_zero, List.getElem?_cons_succ] <;> rfl) ?_
          refine r_extract rfl (by simp only [upd_get, ev, Nat.reduceEqDiff, ↓reduceIte] <;> rfl) (by simp only [List.getElem?_toArray, List.getElem?_cons_zero, List.getElem?_cons_succ] <;> rfl) ?_
          refine r_assign rfl ?_
          refine r_assign rfl ?_
          refine r_assign rfl ?_
          refine LW.nil ?_
          refine thenE_norm ?_
          refine cut (K := K16) [0, 1, 5, 6, 7, 8, 9, 10, 11, 12, 13] (fun σ => ?_)
          simp only [setL, keepE, upd_get, ev, Nat.reduceEqDiff, ↓reduceIte]
          refine h16 _ _ ?_; clear h16; try clear K16
          refine CW.seq (fun K17 h17 => ?_)
          refine CW.seq (fun K18 h18 => ?_)
          refine CW.region ?_
          refine r_move rfl ?_
          refine r_move rfl ?_
          refine r_call rfl Try.call24 (by simp only [List.map_cons, List.map_nil, List.map_toArray, List.toList_toArray, upd_get, ev, Nat.reduceEqDiff, ↓reduceIte] <;> rfl) (SameInts_c _ (by exact SH.rsO H (i := 3) rfl) (by exact SH.rsO H (i := 4) rfl)) ?_
          rintro _ w17_2 ⟨rfl, X⟩
          refine ⟨_, rfl, ?_⟩
          replace H := SH.same H X
          clear X
          refine r_not rfl rfl ?_
          refine r_move rfl ?_
          refine LW.known (t := 114) (c := false) rfl (by simp) (fun hg17_5 => ?_)
          refine LW.want rfl rfl hg17_5 ?_
          refine r_move rfl ?_
          refine LW.want rfl rfl hg17_5 ?_
          refine r_move rfl ?_
          refine LW.want rfl rfl hg17_5 ?_
          refine r_neq rfl rfl rfl ?_
          refine r_pickF rfl rfl hg17_5 ?_
          refine r_move rfl ?_
          refine LW.known (t := 119) (c := false) rfl (by simp) (fun hg17_10 => ?_)
          refine LW.want rfl rfl hg17_10 ?_
          refine r_move rfl ?_
          refine LW.want rfl rfl hg17_10 ?_
          refine r_move rfl ?_
          refine LW.want rfl rfl hg17_10 ?_
          refine r_neq rfl rfl rfl ?_
          refine r_pickF rfl rfl hg17_10 ?_
          refine LW.nil ?_
          refine thenE_norm ?_
          refine cut (K := K18) [0, 1, 5, 6, 7, 10, 11, 123] (fun σ => ?_)
          simp only [setL, keepE, upd_get, ev, Nat.reduceEqDiff, ↓reduceIte]
          refine h18 _ _ ?_; clear h18; try clear K18
          refine CW.condF rfl (by simp) ?_
          refine CW.skip ?_
          refine thenE_norm (h17 _ _ ?_); clear h17; try clear K17
          refine CW.seq (fun K19 h19 => ?_)
          refine CW.region ?_
          refine r_move rfl ?_
          refine r_eql rfl rfl rfl ?_
          refine LW.nil ?_
          refine thenE_norm (h19 _ _ ?_); clear h19; try clear K19
          refine CW.cond rfl (fun hc5 => ?_) (fun hc5 => ?_)
          · try simp only [decide_eq_true_eq, decide_eq_false_iff_not, Bool.and_eq_true, Bool.or_eq_true, Bool.and_eq_false_iff, Bool.or_eq_false_iff, Bool.not_eq_true', Bool.not_eq_false', beq_iff_eq, bne_iff_ne, ne_eq, Decidable.not_not] at hc5
            obtain ⟨rfl, rfl, hok2, hlt⟩ := hjo hc5
            refine CW.region ?_
            refine r_move rfl ?_
            refine r_assign rfl ?_
            refine LW.nil ?_
            refine blockE_norm ?_
            refine thenE_norm ?_
            first
              | exact ⟨rfl, _, _, _, rfl, hok2, by simp; omega, SH.sel (SH.freeze H (i := 4) rfl) [0, 1, 4] (by decide) rfl⟩
              | exact ⟨rfl, _, _, _, rfl, hok, hx3, (SH.sel H [0, 1, 2] (by decide) (by rfl))⟩
          · try simp only [decide_eq_true_eq, decide_eq_false_iff_not, Bool.and_eq_true, Bool.or_eq_true, Bool.and_eq_false_iff, Bool.or_eq_false_iff, Bool.not_eq_true', Bool.not_eq_false', beq_iff_eq, bne_iff_ne, ne_eq, Decidable.not_not] at hc5
            refine CW.skip ?_
            refine blockE_norm ?_
            refine thenE_norm ?_
            first
              | exact ⟨rfl, _, _, _, rfl, hok2, by simp; omega, SH.sel (SH.freeze H (i := 4) rfl) [0, 1, 4] (by decide) rfl⟩
              | exact ⟨rfl, _, _, _, rfl, hok, hx3, (SH.sel H [0, 1, 2] (by decide) (by rfl))⟩
        · try simp only [decide_eq_true_eq, decide_eq_false_iff_not, Bool.and_eq_true, Bool.or_eq_true, Bool.and_eq_false_iff, Bool.or_eq_false_iff, Bool.not_eq_true', Bool.not_eq_false', beq_iff_eq, bne_iff_ne, ne_eq, Decidable.not_not] at hc3
          refine CW.seq (fun K20 h20 => ?_)
          refine CW.region ?_
          refine r_eql rfl rfl rfl ?_
          refine r_assign rfl ?_
          refine LW.nil ?_
          refine thenE_norm ?_
          refine cut (K := K20) [0, 1, 5, 6, 7, 127] (fun σ => ?_)
          simp only [setL, keepE, upd_get, ev, Nat.reduceEqDiff, ↓reduceIte]
          refine h20 _ _ ?_; clear h20; try clear K20
          refine CW.cond rfl (fun hc6 => ?_) (fun hc6 => ?_)
          · try simp only [decide_eq_true_eq, decide_eq_false_iff_not, Bool.and_eq_true, Bool.or_eq_true, Bool.and_eq_false_iff, Bool.or_eq_false_iff, Bool.not_eq_true', Bool.not_eq_false', beq_iff_eq, bne_iff_ne, ne_eq, Decidable.not_not] at hc6
            refine CW.seq (fun K21 h21 => ?_)
            refine CW.region ?_
            refine r_move rfl ?_
            refine r_move rfl ?_
            refine r_call rfl Try.call20 (by simp only [List.map_cons, List.map_nil, List.map_toArray, List.toList_toArray, upd_get, ev, Nat.reduceEqDiff, ↓reduceIte] <;> rfl) (Leave_c _ _ (by exact SH.rsR H (i := 2) rfl) (by first | omega | (simp only [List.length_append, List.length_cons, List.length_nil]; omega) | (simp; omega))) ?_
            rintro _ w22_2 ⟨v22_2, g22_2, rfl, K⟩
            refine ⟨_, rfl, ?_⟩
            replace H := SH.call H K
            clear K
            try dsimp only [replC, List.cons_append, List.nil_append, List.append_nil, Value.cells, List.set_cons_zero, List.set_cons_succ] at H
            refine r_move rfl ?_
            refine r_extract rfl (by simp only [upd_get, ev, Nat.reduceEqDiff, ↓reduceIte] <;> rfl) (by simp only [List.getElem?_toArray, List.getElem?_cons_zero, List.getElem?_cons_succ] <;> rfl) ?_
            refine r_extract rfl (by simp only [upd_get, ev, Nat.reduceEqDiff, ↓reduceIte] <;> rfl) (by simp only [List.getElem?_toArray, List.getElem?_cons_zero, List.getElem?_cons_succ] <;> rfl) ?_
            refine r_assign rfl ?_
            refine r_assign rfl ?_
            refine LW.nil ?_
            refine thenE_norm ?_
            refine cut (K := K21) [0, 1, 5, 6, 7, 14, 15] (fun σ => ?_)
            simp only [setL, keepE, upd_get, ev, Nat.reduceEqDiff, ↓reduceIte]
            refine h21 _ _ ?_; clear h21; try clear K21
            refine CW.seq (fun K22 h22 => ?_)
            refine CW.region ?_
            refine r_move rfl ?_
            refine r_move rfl ?_
            refine r_call rfl Try.call26 (by simp only [List.map_cons, List.map_nil, List.map_toArray, List.toList_toArray, upd_get, ev, Nat.reduceEqDiff, ↓reduceIte] <;> rfl) (AheadR_c _ _ (by exact SH.rsR H (i := 2) rfl)) ?_
            rintro _ _ ⟨rfl, rfl⟩
            refine ⟨_, rfl, ?_⟩
            refine r_move rfl ?_
            refine r_extract rfl (by simp only [upd_get, ev, Nat.reduceEqDiff, ↓reduceIte] <;> rfl) (by simp only [List.getElem?_toArray, List.getElem?_cons_zero, List.getElem?_cons_succ] <;> rfl) ?_
            refine r_extract rfl (by simp only [upd_get, ev, Nat.reduceEqDiff, ↓reduceIte] <;> rfl) (by simp only [List.getElem?_toArray, List.getElem?_cons_zero, List.getElem?_cons_succ] <;> rfl) ?_
            refine r_assign rfl ?_
            refine r_assign rfl ?_
            refine LW.nil ?_
            refine thenE_norm ?_
            refine cut (K := K22) [0, 1, 5, 6, 7, 14, 15, 17] (fun σ => ?_)
            simp only [setL, keepE, upd_get, ev, Nat.reduceEqDiff, ↓reduceIte]
            refine h22 _ _ ?_; clear h22; try clear K22
            refine CW.seq (fun K23 h23 => ?_)
            refine CW.seq (fun K24 h24 => ?_)
            have hin : (aheadM xs c).2 = decide (c ∈ xs) := by rw [aheadM]; split <;> simp [*]
            have her : xs.erase c = xs.filter (fun x => !decide (x ∈ [c])) := by
              rw [hok.2.erase_eq_filter]
              congr 1
              funext y
              simp only [List.mem_singleton, bne, decide_eq_true_eq]
              rfl
            rw [hin]
            refine CW.region ?_
            refine r_move rfl ?_
            refine r_move rfl ?_
            refine r_neqB rfl Try.underlying4 rfl rfl ?_
            refine r_move rfl ?_
            refine LW.known (t := 144) (c := false) rfl (by simp) (fun hg24_4 => ?_)
            refine LW.want rfl rfl hg24_4 ?_
            refine r_move rfl ?_
            refine LW.want rfl rfl hg24_4 ?_
            refine r_move rfl ?_
            refine LW.want rfl rfl hg24_4 ?_
            refine r_move rfl ?_
            refine LW.want rfl rfl hg24_4 ?_
            refine r_buildSlice rfl Try.underlying22 Try.sizeOf3 Try.zeroValue3 rfl rfl rfl (by simp only [List.map_cons, List.map_nil, List.toList_toArray, List.foldl_cons, List.foldl_nil, List.replicate_succ, List.replicate_zero, List.set_cons_zero, List.set_cons_succ, upd_get, ev, Nat.reduceEqDiff, ↓reduceIte] <;> rfl) ?_
            intro b24_7 w24_7 hb24_7 hs24_7 hE24_7 hB24_7
            replace H := SH.call H (SH.fromB hE24_7 hb24_7 hs24_7 hB24_7)
            clear hb24_7 hs24_7 hE24_7 hB24_7
            try dsimp only [replC, List.cons_append, List.nil_append, List.append_nil, Value.cells, List.set_cons_zero, List.set_cons_succ] at H
            replace H := SH.row (xs := ([_] : List Int)) (n := 1) (cap := 1) H (by repeat first | exact At.here | apply At.there) (by rfl) (by intro x hx; first | rfl | (simp at hx; done) | (simp only [List.mem_cons, List.not_mem_nil, or_false] at hx; rcases hx with rfl | rfl | rfl | rfl <;> rfl)) (by rfl) rfl (by decide)
            try dsimp only [replC, List.cons_append, List.nil_append, List.append_nil, Value.cells, List.set_cons_zero, List.set_cons_succ] at H
            refine LW.want rfl rfl hg24_4 ?_
            refine r_call rfl Try.call27 (by simp only [List.map_cons, List.map_nil, List.map_toArray, List.toList_toArray, upd_get, ev, Nat.reduceEqDiff, ↓reduceIte] <;> rfl) (WithoutR_c _ (by exact SH.rsR H (i := 2) rfl) (by exact SH.rsO H (i := 4) rfl) (by first | omega | (simp only [List.length_append, List.length_cons, List.length_nil]; omega) | (simp; omega))) ?_
            rintro _ w24_8 ⟨v24_8, g24_8, rfl, K⟩
            refine ⟨_, rfl, ?_⟩
            replace H := SH.call H K
            clear K
            try dsimp only [replC, List.cons_append, List.nil_append, List.append_nil, Value.cells, List.set_cons_zero, List.set_cons_succ] at H
            refine LW.want rfl rfl hg24_4 ?_
            refine r_call rfl Try.call24 (by simp only [List.map_cons, List.map_nil, List.map_toArray, List.toList_toArray, upd_get, ev, Nat.reduceEqDiff, ↓reduceIte] <;> rfl) (SameInts_c _ (by exact SH.rsO H (i := 3) rfl) (by exact SH.rsO H (i := 5) rfl)) ?_
            rintro _ w24_9 ⟨rfl, X⟩
            refine ⟨_, rfl, ?_⟩
            replace H := SH.same H X
            clear X
            refine LW.want rfl rfl hg24_4 ?_
            refine r_not rfl rfl ?_
            refine r_pickF rfl rfl hg24_4 ?_
            refine LW.nil ?_
            refine thenE_norm ?_
            refine cut (K := K24) [0, 1, 5, 6, 7, 152] (fun σ => ?_)
            simp only [setL, keepE, upd_get, ev, Nat.reduceEqDiff, ↓reduceIte]
            refine h24 _ _ ?_; clear h24; try clear K24
            refine CW.condF rfl (by rw [her]; simp) ?_
            refine CW.skip ?_
            refine thenE_norm (h23 _ _ ?_); clear h23; try clear K23
            refine CW.region ?_
            refine r_move rfl ?_
            refine r_move rfl ?_
            refine r_buildSlice rfl Try.underlying22 Try.sizeOf3 Try.zeroValue3 rfl rfl rfl (by simp only [List.map_cons, List.map_nil, List.toList_toArray, List.foldl_cons, List.foldl_nil, List.replicate_succ, List.replicate_zero, List.set_cons_zero, List.set_cons_succ, upd_get, ev, Nat.reduceEqDiff, ↓reduceIte] <;> rfl) ?_
            intro b26_2 w26_2 hb26_2 hs26_2 hE26_2 hB26_2
            replace H := SH.call H (SH.fromB hE26_2 hb26_2 hs26_2 hB26_2)
            clear hb26_2 hs26_2 hE26_2 hB26_2
            try dsimp only [replC, List.cons_append, List.nil_append, List.append_nil, Value.cells, List.set_cons_zero, List.set_cons_succ] at H
            replace H := SH.row (xs := ([_] : List Int)) (n := 1) (cap := 1) H (by repeat first | exact At.here | apply At.there) (by rfl) (by intro x hx; first | rfl | (simp at hx; done) | (simp only [List.mem_cons, List.not_mem_nil, or_false] at hx; rcases hx with rfl | rfl | rfl | rfl <;> rfl)) (by rfl) rfl (by decide)
            try dsimp only [replC, List.cons_append, List.nil_append, List.append_nil, Value.cells, List.set_cons_zero, List.set_cons_succ] at H
            refine r_call rfl Try.call27 (by simp only [List.map_cons, List.map_nil, List.map_toArray, List.toList_toArray, upd_get, ev, Nat.reduceEqDiff, ↓reduceIte] <;> rfl) (WithoutR_c _ (by exact SH.rsR H (i := 2) rfl) (by exact SH.rsO H (i := 6) rfl) (by first | omega | (simp only [List.length_append, List.length_cons, List.length_nil]; omega) | (simp; omega))) ?_
            rintro _ w26_3 ⟨v26_3, g26_3, rfl, K⟩
            refine ⟨_, rfl, ?_⟩
            replace H := SH.call H K
            clear K
            try dsimp only [replC, List.cons_append, List.nil_append, List.append_nil, Value.cells, List.set_cons_zero, List.set_cons_succ] at H
            refine r_assign rfl ?_
            refine LW.nil ?_
            refine blockE_norm ?_
            refine thenE_norm ?_
            exact ⟨rfl, _, _, _, rfl, filter_ok _ hok, Nat.le_trans (List.length_filter_le _ _) hx3, SH.sel (SH.freeze H (i := 7) rfl) [0, 1, 7] (by decide) rfl⟩
          · try simp only [decide_eq_true_eq, decide_eq_false_iff_not, Bool.and_eq_true, Bool.or_eq_true, Bool.and_eq_false_iff, Bool.or_eq_false_iff, Bool.not_eq_true', Bool.not_eq_false', beq_iff_eq, bne_iff_ne, ne_eq, Decidable.not_not] at hc6
            refine CW.seq (fun K25 h25 => ?_)
            refine CW.region ?_
            refine r_move rfl ?_
            refine r_call rfl Try.call21 (by simp only [List.map_cons, List.map_nil, List.map_toArray, List.toList_toArray, upd_get, ev, Nat.reduceEqDiff, ↓reduceIte] <;> rfl) (Next_c _ (by exact SH.rsR H (i := 2) rfl) (by first | omega | (simp only [List.length_append, List.length_cons, List.length_nil]; omega) | (simp; omega))) ?_
            rintro _ w9_1 ⟨v9_1, g9_1, rfl, K⟩
            refine ⟨_, rfl, ?_⟩
            replace H := SH.call H K
            clear K
            try dsimp only [replC, List.cons_append, List.nil_append, List.append_nil, Value.cells, List.set_cons_zero, List.set_cons_succ] at H
            refine r_move rfl ?_
            refine r_extract rfl (by simp only [upd_get, ev, Nat.reduceEqDiff, ↓reduceIte] <;> rfl) (by simp only [List.getElem?_toArray, List.getElem?_cons_zero, List.getElem?_cons_succ] <;> rfl) ?_
            refine r_extract rfl (by simp only [upd_get, ev, Nat.reduceEqDiff, ↓reduceIte] <;> rfl) (by simp only [List.getElem?_toArray, List.getElem?_cons_zero, List.getElem?_cons_succ] <;> rfl) ?_
            refine r_extract rfl (by simp only [upd_get, ev, Nat.reduceEqDiff, ↓reduceIte] <;> rfl) (by simp only [List.getElem?_toArray, List.getElem?_cons_zero, List.getElem?_cons_succ] <;> rfl) ?_
            refine r_assign rfl ?_
            refine r_assign rfl ?_
            refine r_assign rfl ?_
            refine LW.nil ?_
            refine thenE_norm ?_
            refine cut (K := K25) [0, 1, 5, 6, 7, 18, 19, 20] (fun σ => ?_)
            simp only [setL, keepE, upd_get, ev, Nat.reduceEqDiff, ↓reduceIte]
            refine h25 _ _ ?_; clear h25; try clear K25
            refine CW.seq (fun K26 h26 => ?_)
            refine CW.seq (fun K27 h27 => ?_)
            rcases xs with _ | ⟨x, r⟩
            · dsimp only [List.headD_nil, List.tail_nil, List.isEmpty_nil] at H ⊢
              refine CW.region ?_
              refine r_move rfl ?_
              refine r_move rfl ?_
              first
                | refine r_lenV rfl Try.underlying22 (by simp only [upd_get, ev, Nat.reduceEqDiff, ↓reduceIte] <;> rfl) (by first | assumption | exact SH.rsR H (by repeat first | exact At.here | apply At.there) | exact SH.rsO H (by repeat first | exact At.here | apply At.there) | exact Rs.toH (by first | assumption | exact SH.rsR H (by repeat first | exact At.here | apply At.there) | exact SH.rsO H (by repeat first | exact At.here | apply At.there)) (by omega) | exact Rs.toL (by first | assumption | exact SH.rsR H (by repeat first | exact At.here | apply At.there) | exact SH.rsO H (by repeat first | exact At.here | apply At.there)) (by omega) | exact Rs.toLH (by first | assumption | exact SH.rsR H (by repeat first | exact At.here | apply At.there) | exact SH.rsO H (by repeat first | exact At.here | apply At.there)) (by omega) (by omega)) ?_
                | refine r_len rfl Try.underlying22 rfl ?_
              refine r_gtr rfl rfl rfl ?_
              refine r_neqB rfl Try.underlying4 rfl rfl ?_
              refine r_move rfl ?_
              refine LW.known (t := 61) (c := false) rfl (by simp) (fun hg10_6 => ?_)
              refine LW.want rfl rfl hg10_6 ?_
              refine r_move rfl ?_
              refine LW.want rfl rfl hg10_6 ?_
              refine r_move rfl ?_
              refine LW.known (t := 63) (c := false) rfl (by first | rfl | (simp only [decide_eq_true_eq, decide_eq_false_iff_not, Bool.and_eq_true, Bool.or_eq_true, Bool.and_eq_false_iff, Bool.or_eq_false_iff, Bool.not_eq_true', Bool.not_eq_false', beq_iff_eq, bne_iff_ne]; omega) | simp_all) (fun hg10_8 => ?_)
              refine LW.skip rfl (fun _ e => by cases e; decide) rfl hg10_8 ?_
              refine LW.skip rfl (fun _ e => by cases e; decide) rfl hg10_8 ?_
              refine LW.skip rfl (fun _ e => by cases e; decide) rfl hg10_8 ?_
              refine LW.skip rfl (fun _ e => by cases e; decide) rfl hg10_8 ?_
              refine LW.skip rfl (fun _ e => by cases e; decide) rfl hg10_8 ?_
              refine LW.skip rfl (fun _ e => by cases e; decide) rfl hg10_8 ?_
              refine LW.skipU rfl (fun _ e => by cases e; decide) rfl ?_
              refine LW.skipU rfl (fun _ e => by cases e; decide) rfl ?_
              refine LW.skipU rfl (fun _ e => by cases e; decide) rfl ?_
              refine LW.skipU rfl (fun _ e => by cases e; decide) rfl ?_
              refine LW.skipU rfl (fun _ e => by cases e; decide) rfl ?_
              refine LW.skip rfl (fun _ e => by cases e; decide) rfl hg10_8 ?_
              refine LW.want rfl rfl hg10_6 ?_
              refine r_pickF rfl rfl hg10_8 ?_
              refine r_pickF rfl rfl hg10_6 ?_
              refine r_move rfl ?_
              refine LW.known (t := 78) (c := false) rfl (by first | rfl | (simp only [decide_eq_true_eq, decide_eq_false_iff_not, Bool.and_eq_true, Bool.or_eq_true, Bool.and_eq_false_iff, Bool.or_eq_false_iff, Bool.not_eq_true', Bool.not_eq_false', beq_iff_eq, bne_iff_ne]; omega) | simp_all) (fun hg10_23 => ?_)
              refine LW.want rfl rfl hg10_23 ?_
              refine r_move rfl ?_
              refine LW.want rfl rfl hg10_23 ?_
              refine r_not rfl rfl ?_
              refine LW.want rfl rfl hg10_23 ?_
              refine r_move rfl ?_
              refine LW.known (t := 81) (c := true) rfl (by first | rfl | (simp only [decide_eq_true_eq, decide_eq_false_iff_not, Bool.and_eq_true, Bool.or_eq_true, Bool.and_eq_false_iff, Bool.or_eq_false_iff, Bool.not_eq_true', Bool.not_eq_false', beq_iff_eq, bne_iff_ne]; omega) | simp_all) (fun hg10_26 => ?_)
              refine LW.want rfl rfl hg10_26 ?_
              refine r_move rfl ?_
              refine LW.want rfl rfl hg10_26 ?_
              refine r_neq rfl rfl rfl ?_
              refine LW.want rfl rfl hg10_26 ?_
              refine r_move rfl ?_
              refine LW.known (t := 84) (c := false) rfl (by first | rfl | (simp only [decide_eq_true_eq, decide_eq_false_iff_not, Bool.and_eq_true, Bool.or_eq_true, Bool.and_eq_false_iff, Bool.or_eq_false_iff, Bool.not_eq_true', Bool.not_eq_false', beq_iff_eq, bne_iff_ne]; omega) | simp_all) (fun hg10_29 => ?_)
              refine LW.want rfl rfl hg10_29 ?_
              refine r_move rfl ?_
              refine LW.want rfl rfl hg10_29 ?_
              first
                | refine r_lenV rfl Try.underlying22 (by simp only [upd_get, ev, Nat.reduceEqDiff, ↓reduceIte] <;> rfl) (by first | assumption | exact SH.rsR H (by repeat first | exact At.here | apply At.there) | exact SH.rsO H (by repeat first | exact At.here | apply At.there) | exact Rs.toH (by first | assumption | exact SH.rsR H (by repeat first | exact At.here | apply At.there) | exact SH.rsO H (by repeat first | exact At.here | apply At.there)) (by omega) | exact Rs.toL (by first | assumption | exact SH.rsR H (by repeat first | exact At.here | apply At.there) | exact SH.rsO H (by repeat first | exact At.here | apply At.there)) (by omega) | exact Rs.toLH (by first | assumption | exact SH.rsR H (by repeat first | exact At.here | apply At.there) | exact SH.rsO H (by repeat first | exact At.here | apply At.there)) (by omega) (by omega)) ?_
                | refine r_len rfl Try.underlying22 rfl ?_
              refine LW.want rfl rfl hg10_29 ?_
              refine r_gtr rfl rfl rfl ?_
              refine LW.want rfl rfl hg10_26 ?_
              refine r_pickF rfl rfl hg10_29 ?_
              refine LW.want rfl rfl hg10_23 ?_
              refine r_pickT rfl rfl hg10_26 ?_
              refine r_pickF rfl rfl hg10_23 ?_
              refine LW.nil ?_
              refine thenE_norm ?_
              refine cut (K := K27) [0, 1, 5, 6, 7, 20, 90] (fun σ => ?_)
              simp only [setL, keepE, upd_get, ev, Nat.reduceEqDiff, ↓reduceIte]
              refine h27 _ _ ?_; clear h27; try clear K27
              refine CW.condF rfl (by simp) ?_
              refine CW.skip ?_
              refine thenE_norm (h26 _ _ ?_); clear h26; try clear K26
              refine CW.seq (fun K28 h28 => ?_)
              refine CW.region ?_
              refine r_move rfl ?_
              refine LW.nil ?_
              refine thenE_norm (h28 _ _ ?_); clear h28; try clear K28
              refine CW.condF rfl (by first | rfl | (simp only [decide_eq_true_eq, decide_eq_false_iff_not, Bool.and_eq_true, Bool.or_eq_true, Bool.and_eq_false_iff, Bool.or_eq_false_iff, Bool.not_eq_true', Bool.not_eq_false', beq_iff_eq, bne_iff_ne]; omega) | simp_all) ?_
              refine CW.skip ?_
              refine blockE_norm ?_
              refine thenE_norm ?_
              exact ⟨rfl, _, _, _, rfl, hok, hx3, (SH.sel H [0, 1, 2] (by decide) (by rfl))⟩
            · dsimp only [List.headD_cons, List.tail_cons, List.isEmpty_cons] at H ⊢
              have hx0 : (x :: r)[0]? = some x := rfl
              refine CW.region ?_
              refine r_move rfl ?_
              refine r_move rfl ?_
              first
                | refine r_lenV rfl Try.underlying22 (by simp only [upd_get, ev, Nat.reduceEqDiff, ↓reduceIte] <;> rfl) (by first | assumption | exact SH.rsR H (by repeat first | exact At.here | apply At.there) | exact SH.rsO H (by repeat first | exact At.here | apply At.there) | exact Rs.toH (by first | assumption | exact SH.rsR H (by repeat first | exact At.here | apply At.there) | exact SH.rsO H (by repeat first | exact At.here | apply At.there)) (by omega) | exact Rs.toL (by first | assumption | exact SH.rsR H (by repeat first | exact At.here | apply At.there) | exact SH.rsO H (by repeat first | exact At.here | apply At.there)) (by omega) | exact Rs.toLH (by first | assumption | exact SH.rsR H (by repeat first | exact At.here | apply At.there) | exact SH.rsO H (by repeat first | exact At.here | apply At.there)) (by omega) (by omega)) ?_
                | refine r_len rfl Try.underlying22 rfl ?_
              refine r_gtr rfl rfl rfl ?_
              refine r_neqB rfl Try.underlying4 rfl rfl ?_
              refine r_move rfl ?_
              refine LW.known (t := 61) (c := false) rfl (by simp) (fun hg10_6 => ?_)
              refine LW.want rfl rfl hg10_6 ?_
              refine r_move rfl ?_
              refine LW.want rfl rfl hg10_6 ?_
              refine r_move rfl ?_
              refine LW.known (t := 63) (c := true) rfl (by first | rfl | (simp only [decide_eq_true_eq, decide_eq_false_iff_not, Bool.and_eq_true, Bool.or_eq_true, Bool.and_eq_false_iff, Bool.or_eq_false_iff, Bool.not_eq_true', Bool.not_eq_false', beq_iff_eq, bne_iff_ne]; omega) | simp_all) (fun hg10_8 => ?_)
              refine LW.want rfl rfl hg10_8 ?_
              refine r_move rfl ?_
              refine LW.want rfl rfl hg10_8 ?_
              refine r_move rfl ?_
              refine LW.want rfl rfl hg10_8 ?_
              refine r_indexAddrV rfl Try.underlying22 (by simp only [upd_get, ev, Nat.reduceEqDiff, ↓reduceIte] <;> rfl) rfl (by first | assumption | exact SH.rsR H (by repeat first | exact At.here | apply At.there) | exact SH.rsO H (by repeat first | exact At.here | apply At.there) | exact Rs.toH (by first | assumption | exact SH.rsR H (by repeat first | exact At.here | apply At.there) | exact SH.rsO H (by repeat first | exact At.here | apply At.there)) (by omega) | exact Rs.toL (by first | assumption | exact SH.rsR H (by repeat first | exact At.here | apply At.there) | exact SH.rsO H (by repeat first | exact At.here | apply At.there)) (by omega) | exact Rs.toLH (by first | assumption | exact SH.rsR H (by repeat first | exact At.here | apply At.there) | exact SH.rsO H (by repeat first | exact At.here | apply At.there)) (by omega) (by omega)) (by exact Try.sizeOf3) (by omega) (by simp) ?_
              refine LW.want rfl rfl hg10_8 ?_
              refine r_load rfl Try.isAgg3 rfl (Rs.cell0 (by exact SH.rsR H (i := 2) rfl) hx0 rfl) ?_
              refine LW.want rfl rfl hg10_8 ?_
              refine r_neq rfl rfl rfl ?_
              refine LW.want rfl rfl hg10_8 ?_
              refine r_move rfl ?_
              refine LW.known (t := 69) (c := false) rfl (by simp) (fun hg10_14 => ?_)
              refine LW.want rfl rfl hg10_14 ?_
              refine r_move rfl ?_
              refine LW.want rfl rfl hg10_14 ?_
              refine r_move rfl ?_
              refine LW.want rfl rfl hg10_14 ?_
              refine r_sliceLV rfl Try.underlying22 (by simp only [upd_get, ev, Nat.reduceEqDiff, ↓reduceIte] <;> rfl) rfl (by first | assumption | exact SH.rsR H (by repeat first | exact At.here | apply At.there) | exact SH.rsO H (by repeat first | exact At.here | apply At.there) | exact Rs.toH (by first | assumption | exact SH.rsR H (by repeat first | exact At.here | apply At.there) | exact SH.rsO H (by repeat first | exact At.here | apply At.there)) (by omega) | exact Rs.toL (by first | assumption | exact SH.rsR H (by repeat first | exact At.here | apply At.there) | exact SH.rsO H (by repeat first | exact At.here | apply At.there)) (by omega) | exact Rs.toLH (by first | assumption | exact SH.rsR H (by repeat first | exact At.here | apply At.there) | exact SH.rsO H (by repeat first | exact At.here | apply At.there)) (by omega) (by omega)) (by exact Try.sizeOf3) (by omega) (by simp; omega) ?_
              refine LW.want rfl rfl hg10_14 ?_
              refine r_call rfl Try.call24 (by simp only [List.map_cons, List.map_nil, List.map_toArray, List.toList_toArray, upd_get, ev, Nat.reduceEqDiff, ↓reduceIte] <;> rfl) (SameInts_c _ (by exact SH.rsO H (i := 3) rfl) (Rs.toL (by exact SH.rsR H (i := 2) rfl) (by simp))) ?_
              rintro _ w10_17 ⟨rfl, X⟩
              refine ⟨_, rfl, ?_⟩
              replace H := SH.same H X
              clear X
              refine LW.want rfl rfl hg10_14 ?_
              refine r_not rfl rfl ?_
              refine LW.want rfl rfl hg10_8 ?_
              refine r_pickF rfl rfl hg10_14 ?_
              refine LW.want rfl rfl hg10_6 ?_
              refine r_pickT rfl rfl hg10_8 ?_
              refine r_pickF rfl rfl hg10_6 ?_
              refine r_move rfl ?_
              refine LW.known (t := 78) (c := false) rfl (by simp) (fun hg10_23 => ?_)
              refine LW.want rfl rfl hg10_23 ?_
              refine r_move rfl ?_
              refine LW.want rfl rfl hg10_23 ?_
              refine r_not rfl rfl ?_
              refine LW.want rfl rfl hg10_23 ?_
              refine r_move rfl ?_
              refine LW.known (t := 81) (c := false) rfl (by first | rfl | (simp only [decide_eq_true_eq, decide_eq_false_iff_not, Bool.and_eq_true, Bool.or_eq_true, Bool.and_eq_false_iff, Bool.or_eq_false_iff, Bool.not_eq_true', Bool.not_eq_false', beq_iff_eq, bne_iff_ne]; omega) | simp_all) (fun hg10_26 => ?_)
              refine LW.skip rfl (fun _ e => by cases e; decide) rfl hg10_26 ?_
              refine LW.skip rfl (fun _ e => by cases e; decide) rfl hg10_26 ?_
              refine LW.skip rfl (fun _ e => by cases e; decide) rfl hg10_26 ?_
              refine LW.skipU rfl (fun _ e => by cases e; decide) rfl ?_
              refine LW.skipU rfl (fun _ e => by cases e; decide) rfl ?_
              refine LW.skipU rfl (fun _ e => by cases e; decide) rfl ?_
              refine LW.skip rfl (fun _ e => by cases e; decide) rfl hg10_26 ?_
              refine LW.want rfl rfl hg10_23 ?_
              refine r_pickF rfl rfl hg10_26 ?_
              refine r_pickF rfl rfl hg10_23 ?_
              refine LW.nil ?_
              refine thenE_norm ?_
              refine cut (K := K27) [0, 1, 5, 6, 7, 20, 90] (fun σ => ?_)
              simp only [setL, keepE, upd_get, ev, Nat.reduceEqDiff, ↓reduceIte]
              refine h27 _ _ ?_; clear h27; try clear K27
              refine CW.condF rfl (by simp) ?_
              refine CW.skip ?_
              refine thenE_norm (h26 _ _ ?_); clear h26; try clear K26
              refine CW.seq (fun K29 h29 => ?_)
              refine CW.region ?_
              refine r_move rfl ?_
              refine LW.nil ?_
              refine thenE_norm (h29 _ _ ?_); clear h29; try clear K29
              refine CW.condT rfl (by first | rfl | (simp only [decide_eq_true_eq, decide_eq_false_iff_not, Bool.and_eq_true, Bool.or_eq_true, Bool.and_eq_false_iff, Bool.or_eq_false_iff, Bool.not_eq_true', Bool.not_eq_false', beq_iff_eq, bne_iff_ne]; omega) | simp_all) ?_
              refine CW.region ?_
              refine r_move rfl ?_
              refine r_sliceLV rfl Try.underlying22 (by simp only [upd_get, ev, Nat.reduceEqDiff, ↓reduceIte] <;> rfl) rfl (by first | assumption | exact SH.rsR H (by repeat first | exact At.here | apply At.there) | exact SH.rsO H (by repeat first | exact At.here | apply At.there) | exact Rs.toH (by first | assumption | exact SH.rsR H (by repeat first | exact At.here | apply At.there) | exact SH.rsO H (by repeat first | exact At.here | apply At.there)) (by omega) | exact Rs.toL (by first | assumption | exact SH.rsR H (by repeat first | exact At.here | apply At.there) | exact SH.rsO H (by repeat first | exact At.here | apply At.there)) (by omega) | exact Rs.toLH (by first | assumption | exact SH.rsR H (by repeat first | exact At.here | apply At.there) | exact SH.rsO H (by repeat first | exact At.here | apply At.there)) (by omega) (by omega)) (by exact Try.sizeOf3) (by omega) (by simp; omega) ?_
              have hsh := SH.share H (i := 2) rfl (Rs.toL (l := 1) (by exact SH.rsR H (i := 2) rfl) (by simp))
              dsimp only [List.cons_append, List.nil_append] at hsh
              refine r_assign rfl ?_
              refine LW.nil ?_
              refine blockE_norm ?_
              refine thenE_norm ?_
              exact ⟨rfl, _, _, _, rfl, tail_ok hok, by simp at hx3; omega, SH.sel hsh [0, 1, 4] (by decide) rfl⟩
      try clear H
      rintro vs wJ σ ⟨u, M, xs, rfl, hok, hx3, H⟩
      simp only [setL, keepE, upd_get, ev, Nat.reduceEqDiff, ↓reduceIte]
      have hmm : rightM xs = true := by rw [rightM, decide_eq_true hok, decide_eq_true hx3]; rfl
      refine CW.seq (fun K30 h30 => ?_)
      refine CW.region ?_
      refine r_move rfl ?_
      refine r_move rfl ?_
      refine r_call rfl Try.call18 (by simp only [List.map_cons, List.map_nil, List.map_toArray, List.toList_toArray, upd_get, ev, Nat.reduceEqDiff, ↓reduceIte] <;> rfl) (Ahead_c _ _ (by exact SH.rsR H (i := 2) rfl)) ?_
      rintro _ _ ⟨rfl, rfl⟩
      refine ⟨_, rfl, ?_⟩
      refine r_move rfl ?_
      refine r_extract rfl (by simp only [upd_get, ev, Nat.reduceEqDiff, ↓reduceIte] <;> rfl) (by simp only [List.getElem?_toArray, List.getElem?_cons_zero, List.getElem?_cons_succ] <;> rfl) ?_
      refine r_extract rfl (by simp only [upd_get, ev, Nat.reduceEqDiff, ↓reduceIte] <;> rfl) (by simp only [List.getElem?_toArray, List.getElem?_cons_zero, List.getElem?_cons_succ] <;> rfl) ?_
      refine r_assign rfl ?_
      refine r_assign rfl ?_
      refine LW.nil ?_
      refine thenE_norm ?_
      refine cut (K := K30) [0, 1, 5, 6, 7, 21, 22] (fun σ => ?_)
      simp only [setL, keepE, upd_get, ev, Nat.reduceEqDiff, ↓reduceIte]
      refine h30 _ _ ?_; clear h30; try clear K30
      refine CW.seq (fun K31 h31 => ?_)
      refine CW.region ?_
      refine r_move rfl ?_
      refine r_move rfl ?_
      refine r_call rfl Try.call26 (by simp only [List.map_cons, List.map_nil, List.map_toArray, List.toList_toArray, upd_get, ev, Nat.reduceEqDiff, ↓reduceIte] <;> rfl) (AheadR_c _ _ (by exact SH.rsR H (i := 2) rfl)) ?_
      rintro _ _ ⟨rfl, rfl⟩
      refine ⟨_, rfl, ?_⟩
      refine r_move rfl ?_
      refine r_extract rfl (by simp only [upd_get, ev, Nat.reduceEqDiff, ↓reduceIte] <;> rfl) (by simp only [List.getElem?_toArray, List.getElem?_cons_zero, List.getElem?_cons_succ] <;> rfl) ?_
      refine r_extract rfl (by simp only [upd_get, ev, Nat.reduceEqDiff, ↓reduceIte] <;> rfl) (by simp only [List.getElem?_toArray, List.getElem?_cons_zero, List.getElem?_cons_succ] <;> rfl) ?_
      refine r_assign rfl ?_
      refine r_assign rfl ?_
      refine LW.nil ?_
      refine thenE_norm ?_
      refine cut (K := K31) [0, 1, 5, 6, 21, 22, 23, 24] (fun σ => ?_)
      simp only [setL, keepE, upd_get, ev, Nat.reduceEqDiff, ↓reduceIte]
      refine h31 _ _ ?_; clear h31; try clear K31
      refine CW.seq (fun K32 h32 => ?_)
      refine CW.region ?_
      refine r_move rfl ?_
      refine r_move rfl ?_
      refine r_neq rfl rfl rfl ?_
      refine r_move rfl ?_
      refine' LW.grpOr (n := 4) (ts := [0, 1, 5, 6, 177, 182]) (d := 176) (tj := 172) rfl (fun hg29_4 => ?_) (fun hg29_4 => ?_) (fun σ => ?_)
      rotate_left
      · simp only [List.take_succ_cons, List.take_zero]
        have hg29_4P := hg29_4
        try simp only [decide_eq_true_eq, decide_eq_false_iff_not, Bool.and_eq_true, Bool.or_eq_true, Bool.and_eq_false_iff, Bool.or_eq_false_iff, Bool.not_eq_true', Bool.not_eq_false', beq_iff_eq, bne_iff_ne] at hg29_4P
        refine LW.want rfl rfl hg29_4 ?_
        refine r_move rfl ?_
        refine LW.want rfl rfl hg29_4 ?_
        refine r_move rfl ?_
        refine LW.want rfl rfl hg29_4 ?_
        refine r_neqB rfl Try.underlying4 rfl rfl ?_
        refine r_pickF rfl rfl hg29_4 ?_
        refine LW.nil (thenE_norm ⟨rfl, rfl, rfl⟩)
      · simp only [List.take_succ_cons, List.take_zero]
        refine LW.skip rfl (fun _ e => by cases e; decide) rfl hg29_4 ?_
        refine LW.skip rfl (fun _ e => by cases e; decide) rfl hg29_4 ?_
        refine LW.skip rfl (fun _ e => by cases e; decide) rfl hg29_4 ?_
        refine r_pickT rfl rfl hg29_4 ?_
        refine LW.nil (thenE_norm ⟨rfl, rfl, rfl⟩)
      simp only [setL, keepE, upd_get, ev, Nat.reduceEqDiff, ↓reduceIte]; simp only [List.drop_succ_cons, List.drop_zero]
      refine r_move rfl ?_
      refine' LW.grpOr (n := 4) (ts := [0, 1, 5, 6, 182]) (d := 181) (tj := 177) rfl (fun hg29_9 => ?_) (fun hg29_9 => ?_) (fun σ => ?_)
      rotate_left
      · simp only [List.take_succ_cons, List.take_zero]
        have hg29_9P := hg29_9
        try simp only [decide_eq_true_eq, decide_eq_false_iff_not, Bool.and_eq_true, Bool.or_eq_true, Bool.and_eq_false_iff, Bool.or_eq_false_iff, Bool.not_eq_true', Bool.not_eq_false', beq_iff_eq, bne_iff_ne] at hg29_9P
        refine LW.want rfl rfl hg29_9 ?_
        refine r_move rfl ?_
        refine LW.want rfl rfl hg29_9 ?_
        refine r_call rfl Try.call15 (by simp only [List.map_cons, List.map_nil, List.map_toArray, List.toList_toArray, upd_get, ev, Nat.reduceEqDiff, ↓reduceIte] <;> rfl) (Right_c _ (by exact SH.rsR H (i := 2) rfl)) ?_
        rintro _ _ ⟨rfl, rfl⟩
        refine ⟨_, rfl, ?_⟩
        refine LW.want rfl rfl hg29_9 ?_
        refine r_not rfl rfl ?_
        refine r_pickF rfl rfl hg29_9 ?_
        refine LW.nil (thenE_norm ⟨rfl, rfl, rfl⟩)
      · simp only [List.take_succ_cons, List.take_zero]
        refine LW.skip rfl (fun _ e => by cases e; decide) rfl hg29_9 ?_
        refine LW.skip rfl (fun _ e => by cases e; decide) rfl hg29_9 ?_
        refine LW.skip rfl (fun _ e => by cases e; decide) rfl hg29_9 ?_
        refine r_pickT rfl rfl hg29_9 ?_
        refine LW.nil (thenE_norm ⟨rfl, rfl, rfl⟩)
      simp only [setL, keepE, upd_get, ev, Nat.reduceEqDiff, ↓reduceIte]; simp only [List.drop_succ_cons, List.drop_zero]
      refine r_move rfl ?_
      refine LW.known (t := 182) (c := false) rfl (by simp [hmm]) (fun hg29_14 => ?_)
      refine LW.want rfl rfl hg29_14 ?_
      refine r_move rfl ?_
      refine LW.want rfl rfl hg29_14 ?_
      refine r_move rfl ?_
      refine LW.want rfl rfl hg29_14 ?_
      refine r_call rfl Try.call23 (by simp only [List.map_cons, List.map_nil, List.map_toArray, List.toList_toArray, upd_get, ev, Nat.reduceEqDiff, ↓reduceIte] <;> rfl) (Without_c _ (by exact SH.rsR H (i := 2) rfl) (by exact SH.rsR H (i := 1) rfl) (by first | omega | (simp only [List.length_append, List.length_cons, List.length_nil]; omega) | (simp; omega))) ?_
      rintro _ w29_16 ⟨v29_16, g29_16, rfl, K⟩
      refine ⟨_, rfl, ?_⟩
      replace H := SH.call H K
      clear K
      try dsimp only [replC, List.cons_append, List.nil_append, List.append_nil, Value.cells, List.set_cons_zero, List.set_cons_succ] at H
      refine LW.want rfl rfl hg29_14 ?_
      refine r_move rfl ?_
      refine LW.want rfl rfl hg29_14 ?_
      refine r_move rfl ?_
      refine LW.want rfl rfl hg29_14 ?_
      refine r_call rfl Try.call27 (by simp only [List.map_cons, List.map_nil, List.map_toArray, List.toList_toArray, upd_get, ev, Nat.reduceEqDiff, ↓reduceIte] <;> rfl) (WithoutR_c _ (by exact SH.rsR H (i := 2) rfl) (by exact SH.rsR H (i := 1) rfl) (by first | omega | (simp only [List.length_append, List.length_cons, List.length_nil]; omega) | (simp; omega))) ?_
      rintro _ w29_19 ⟨v29_19, g29_19, rfl, K⟩
      refine ⟨_, rfl, ?_⟩
      replace H := SH.call H K
      clear K
      try dsimp only [replC, List.cons_append, List.nil_append, List.append_nil, Value.cells, List.set_cons_zero, List.set_cons_succ] at H
      refine LW.want rfl rfl hg29_14 ?_
      refine r_call rfl Try.call24 (by simp only [List.map_cons, List.map_nil, List.map_toArray, List.toList_toArray, upd_get, ev, Nat.reduceEqDiff, ↓reduceIte] <;> rfl) (SameInts_c _ (by exact SH.rsO H (i := 3) rfl) (by exact SH.rsO H (i := 4) rfl)) ?_
      rintro _ w29_20 ⟨rfl, X⟩
      refine ⟨_, rfl, ?_⟩
      replace H := SH.same H X
      clear X
      refine LW.want rfl rfl hg29_14 ?_
      refine r_not rfl rfl ?_
      refine r_pickF rfl rfl hg29_14 ?_
      refine LW.nil ?_
      refine thenE_norm ?_
      refine cut (K := K32) [0, 1, 5, 6, 191] (fun σ => ?_)
      simp only [setL, keepE, upd_get, ev, Nat.reduceEqDiff, ↓reduceIte]
      refine h32 _ _ ?_; clear h32; try clear K32
      refine CW.condF rfl (by simp) ?_
      refine CW.skip ?_
      refine blockE_norm ?_
      refine thenE_norm (h10 _ _ ?_); clear h10; try clear K10
      refine CW.region ?_
      refine r_move rfl ?_
      refine r_add rfl rfl rfl (wr_i64 (by omega) (by omega)) ?_
      refine r_assign rfl ?_
      refine LW.nil ?_
      refine thenE_norm ⟨rfl, ?_⟩
      exact ⟨_, by omega, i + 1, _, _, _, rfl, by omega, rfl, hok, hx3, (SH.sel H [0, 1, 2] (by decide) (by rfl))⟩
    · try simp only [decide_eq_true_eq, decide_eq_false_iff_not, Bool.and_eq_true, Bool.or_eq_true, Bool.and_eq_false_iff, Bool.or_eq_false_iff, Bool.not_eq_true', Bool.not_eq_false', beq_iff_eq, bne_iff_ne, ne_eq, Decidable.not_not] at hc2
      refine CW.exit (thenE_exit (thenE_exit (blockE_hit ?_)))
      refine thenE_norm (h6 _ _ ?_); clear h6; try clear K6
      refine CW.seq (fun K33 h33 => ?_)
      refine CW.region ?_
      refine r_call rfl Try.call14 (by simp only [List.map_cons, List.map_nil, List.map_toArray, List.toList_toArray, upd_get, ev, Nat.reduceEqDiff, ↓reduceIte] <;> rfl) (awake7_c _) ?_
      rintro _ w31_0 ⟨rfl, X⟩
      refine ⟨_, rfl, ?_⟩
      replace H := SH.same H X
      clear X
      refine r_assign rfl ?_
      refine LW.nil ?_
      refine thenE_norm (h33 _ _ ?_); clear h33; try clear K33
      refine CW.ret (ret1 Try.results7 (by simp only [upd_get, ev, Nat.reduceEqDiff, ↓reduceIte]; rfl) ?_)
      exact ⟨rfl, H.ext⟩
end Go.Proofs.Ytaggdlbjgjagbaa
