/-
  The walks of layer 15's laws, the fourth part: LearnStays.
-/
import Derived.Test.YtalieccfdmokmaaVLeG
namespace Go.Proofs.Ytalieccfdmokmaa
set_option linter.unusedSimpArgs false
set_option linter.unusedVariables false
set_option maxRecDepth 20000
open Go.V Go.RowKit Go.ChangeShapes Go.WideShapes

structure Act15 where
  fromv : Int
  ballot : Int
  slot : Int
  ns : Value
  trim : Bool
def Act15.L (a : Act15) : List Value := [.int .i64 a.fromv, .int .i64 a.ballot, .int .i64 a.slot, a.ns, .bool a.trim]
instance : Row Act15 := ⟨5, Act15.L, ⟨0, 0, 0, .slice none 0 0, false⟩, fun _ => rfl, rfl⟩
def Act15.Good (w : World) (a : Act15) : Prop := I64 a.fromv ∧ I64 a.ballot ∧ I64 a.slot ∧ (∃ xs : List UInt8, Rs (Old w) w a.ns xs ∧ ∀ y ∈ xs, True) ∧ True
theorem Act15.opens : Opens Try.prog (α := Act15) 67 Act15.Good := fun H enc w base spare held fuel cs x hl h => by
  obtain ⟨u0, u1, u2, u3, u4, rfl⟩ := list5 hl
  obtain ⟨m0, hf0⟩ := open_fields Try.underlying67 h
  obtain ⟨y0, t0⟩ := hf0 0 _ 1 rfl (by kernel_rfl)
  obtain ⟨a0, e0, -, w0⟩ := DataW.trod_int Try.underlying3 t0
  obtain rfl : u0 = _ := by simpa using e0
  obtain ⟨y1, t1⟩ := hf0 1 _ 1 rfl (by kernel_rfl)
  obtain ⟨a1, e1, -, w1⟩ := DataW.trod_int Try.underlying3 t1
  obtain rfl : u1 = _ := by simpa using e1
  obtain ⟨y2, t2⟩ := hf0 2 _ 1 rfl (by kernel_rfl)
  obtain ⟨a2, e2, -, w2⟩ := DataW.trod_int Try.underlying3 t2
  obtain rfl : u2 = _ := by simpa using e2
  obtain ⟨y3, t3⟩ := hf0 3 _ 1 rfl (by kernel_rfl)
  obtain ⟨a3, xs3, e3, r3, g3⟩ := Opens.rows (β := UInt8) Try.underlying22 (opens_u8 Try.underlying5) (by kernel_rfl) t3
  obtain rfl : u3 = _ := by simpa using e3
  have o3 := r3.oneC
  obtain ⟨y4, t4⟩ := hf0 4 _ 1 rfl (by kernel_rfl)
  obtain ⟨a4, e4, -⟩ := DataW.trod_bool Try.underlying4 t4
  obtain rfl : u4 = _ := by simpa using e4
  exact ⟨⟨a0, a1, a2, u3, a4⟩, rfl, (by first | rfl | (simp only [Row.cells, Act15.L]; repeat (first | rfl | refine Bool.and_eq_true_iff.2 ⟨(by first | rfl | assumption), ?_⟩))), ⟨i64_wf w0, i64_wf w1, i64_wf w2, ⟨xs3, r3, g3⟩, trivial⟩⟩
theorem stay1 {sl : Int} {x : Bat} {rs : List Rq} (h0 : 1 ≤ sl ∧ sl ≤ 9) (hm : mayBat x.fill x.view x.tip x.time rs = true) : hearM ⟨3, 0, []⟩ 0 2 sl x rs = (⟨3, 0, [(sl, heardB 2 x rs [0])]⟩, 0) := by
  have ha : askL ⟨3, 0, []⟩ 0 2 sl x rs := ⟨⟨(by decide : (0 : Int) ≤ 0), (by decide : (0 : Int) < 3)⟩, by decide, ⟨h0.1, by omega⟩, hm⟩
  rw [hear_put ha (by
    rintro (q | q)
    · dsimp only at q; omega
    · cases q) (by dsimp only; omega) Bool.false_ne_true]
  rfl
theorem stay2 {sl : Int} {x : Bat} {rs : List Rq} (h0 : 1 ≤ sl ∧ sl ≤ 9) (hm : mayBat x.fill x.view x.tip x.time rs = true) : hearM ⟨3, 0, [(sl, heardB 2 x rs [0])]⟩ 1 2 sl x rs = (⟨3, 0, [(sl, heardB 2 x rs [0, 1])]⟩, 0) := by
  have ha : askL ⟨3, 0, [(sl, heardB 2 x rs [0])]⟩ 1 2 sl x rs := ⟨⟨(by decide : (0 : Int) ≤ 1), (by decide : (1 : Int) < 3)⟩, by decide, ⟨h0.1, by omega⟩, hm⟩
  have hl : lookM [(sl, heardB 2 x rs [0])] sl = some (heardB 2 x rs [0]) := by rw [lookM, if_pos rfl]
  rw [hear_put ha (by
    dsimp only
    rw [hl]
    rintro (q | q)
    · omega
    · cases q) (by dsimp only; omega) (by dsimp only; rw [hl]; exact Bool.false_ne_true)]
  dsimp only
  rw [hl, setM, if_pos rfl]
  rfl
/-- What a learner keeps of a slot. -/
def StS (s : LnS) (sl : Int) (t : Tm) : Prop := s.n = 3 ∧ s.done < sl ∧ lookM s.heard sl = some t
theorem st_trim {s : LnS} {sl d : Int} {t : Tm} (h : StS s sl t) (hd : d < sl) : StS (trimL s d) sl t := by
  unfold trimL
  split
  · exact h
  · refine ⟨h.1, hd, ?_⟩
    show lookM (s.heard.filter fun p => decide (d < p.1)) sl = some t
    rw [look_filter (fun z => decide (d < z)), if_pos (decide_eq_true hd)]
    exact h.2.2
theorem st_hear {s : LnS} {sl i b a : Int} {t : Tm} {x : Bat} {rs : List Rq} (h : StS s sl t) (hc : chosenT 3 (some t) = true) : StS (hearM s i b a x rs).1 sl t ∧ (a = sl → ¬ (hearM s i b a x rs).2 = 0) := by
  have hch : chosenT s.n (lookM s.heard sl) = true := by rw [h.1, h.2.2]; exact hc
  by_cases ha : askL s i b a x rs
  · by_cases hk : a ≤ s.done ∨ chosenT s.n (lookM s.heard a) = true
    · rw [hear_done ha hk]
      exact ⟨h, fun _ q => by cases q⟩
    · have hne : a ≠ sl := fun e => hk (.inr (by rw [e]; exact hch))
      by_cases hf : 9 < a - s.done
      · rw [hear_full ha hk hf]
        exact ⟨h, fun e => absurd e hne⟩
      · by_cases ho : oldT (lookM s.heard a) b = true
        · rw [hear_old ha hk hf ho]
          exact ⟨h, fun e => absurd e hne⟩
        · rw [hear_put ha hk hf ho]
          refine ⟨⟨h.1, h.2.1, ?_⟩, fun e => absurd e hne⟩
          dsimp only
          rw [look_put, if_neg hne]
          exact h.2.2
  · rw [hear_no ha]
    exact ⟨h, fun _ q => by cases q⟩
theorem st_gone {s : LnS} {sl : Int} {t : Tm} (h : StS s sl t) (h9 : sl ≤ 9) : (trimL s sl).n = 3 ∧ (trimL s sl).done = sl ∧ lookM (trimL s sl).heard sl = none := by
  rw [trimL, if_neg (by have := h.2.1; omega)]
  refine ⟨h.1, rfl, ?_⟩
  show lookM (s.heard.filter fun p => decide (sl < p.1)) sl = none
  rw [look_filter (fun z => decide (sl < z)), if_neg (by simp)]
set_option maxHeartbeats 16000000 in
theorem LearnStays_c {F F2 : Nat → Prop} {v0 v2 : Value} {acts : List Act15} {ns : List UInt8} (sb : Int) (w : World) (hv : Rs F w v0 acts) (hn : Rs F2 w v2 ns) (hl : ns.length ≤ 140737488355328) (s0 : 0 ≤ sb) (s1 : sb < 256) (hg : ∀ a ∈ acts, ∃ xs : List UInt8, Rs (Old w) w a.ns xs ∧ xs.length ≤ 140737488355328) :
    Calls Try.prog 8 #[v0, .int .u8 sb, v2] w fun e w' => e = .returned (.bool true) ∧ Ext0 w w' := by
  have H := ((SH.start w).arg hv).arg hn
  have h63 := hv.len63
  have hq0 := Int.emod_nonneg sb (show (9 : Int) ≠ 0 from by decide)
  have hq1 := Int.emod_lt_of_pos sb (show (0 : Int) < 9 from by decide)
  refine calls_of_CW Try.func8 rfl Try.ntmps8 (Nat.le_of_ble_eq_true rfl) ?_
  simp only [argE, argFrom, Nat.reduceAdd]
  refine CW.seq (fun K1 h1 => ?_)
  refine CW.region ?_
  refine r_assign rfl ?_
  refine LW.nil ?_
  refine thenE_norm (h1 _ _ ?_); clear h1; try clear K1
  refine CW.seq (fun K2 h2 => ?_)
  refine CW.seq (fun K3 h3 => ?_)
  refine CW.region ?_
  refine r_move rfl ?_
  first
    | refine r_lenV rfl Try.underlying63 (by simp only [upd_get, ev, Nat.reduceEqDiff, ↓reduceIte] <;> rfl) (by first | assumption | exact SH.rsR H (by (repeat first | exact At.here | apply At.there); done) | exact SH.rsO H (by (repeat first | exact At.here | apply At.there); done) | exact (Rs.nil : Rs Non _ _ _)) ?_
    | refine r_len rfl Try.underlying63 rfl ?_
  refine r_gtr rfl rfl rfl ?_
  refine LW.nil ?_
  refine thenE_norm (h3 _ _ ?_); clear h3; try clear K3
  refine CW.cond rfl (fun hc1 => ?_) (fun hc1 => ?_)
  · try simp only [decide_eq_true_eq, decide_eq_false_iff_not, Bool.and_eq_true, Bool.or_eq_true, Bool.and_eq_false_iff, Bool.or_eq_false_iff, Bool.not_eq_true', Bool.not_eq_false', beq_iff_eq, bne_iff_ne, ne_eq, Decidable.not_not] at hc1
    refine CW.seq (fun K4 h4 => ?_)
    refine CW.region ?_
    refine r_call rfl Try.call22 (by simp only [List.map_cons, List.map_nil, List.map_toArray, List.toList_toArray, upd_get, ev, Nat.reduceEqDiff, ↓reduceIte] <;> rfl) (awake15_c _) ?_
    rintro _ w2_0 ⟨rfl, X⟩
    refine ⟨_, rfl, ?_⟩
    replace H := SH.same H X
    clear X
    refine r_assign rfl ?_
    refine LW.nil ?_
    refine thenE_norm (h4 _ _ ?_); clear h4; try clear K4
    refine CW.ret (thenE_ret (ret1 Try.results8 (by simp only [upd_get, ev, Nat.reduceEqDiff, ↓reduceIte]; rfl) ?_))
    exact ⟨rfl, H.ext⟩
  · try simp only [decide_eq_true_eq, decide_eq_false_iff_not, Bool.and_eq_true, Bool.or_eq_true, Bool.and_eq_false_iff, Bool.or_eq_false_iff, Bool.not_eq_true', Bool.not_eq_false', beq_iff_eq, bne_iff_ne, ne_eq, Decidable.not_not] at hc1
    refine CW.skip ?_
    refine thenE_norm (h2 _ _ ?_); clear h2; try clear K2
    refine CW.seq (fun K5 h5 => ?_)
    refine CW.region ?_
    refine r_call rfl Try.call21 (by simp only [List.map_cons, List.map_nil, List.map_toArray, List.toList_toArray, upd_get, ev, Nat.reduceEqDiff, ↓reduceIte] <;> rfl) (LrnNew_c 3 _ (by decide)) ?_
    rintro _ w3_0 ⟨p, FN, rfl, K⟩
    refine ⟨_, rfl, ?_⟩
    replace H := SH.call H K
    clear K
    try dsimp only [replC, List.cons_append, List.nil_append, List.append_nil] at H
    refine r_assign rfl ?_
    refine LW.nil ?_
    refine thenE_norm (h5 _ _ ?_); clear h5; try clear K5
    refine CW.seq (fun K6 h6 => ?_)
    refine CW.seq (fun K7 h7 => ?_)
    refine CW.region ?_
    refine r_move rfl ?_
    refine r_eqlP rfl Try.underlying42 rfl rfl ?_
    refine LW.nil ?_
    refine thenE_norm ?_
    refine cut (K := K7) [0, 1, 2, 7, 30] (fun σ => ?_)
    simp only [setL, keepE, upd_get, ev, Nat.reduceEqDiff, ↓reduceIte]
    refine h7 _ _ ?_; clear h7; try clear K7
    refine CW.condF rfl (by first | rfl | (simp only [decide_eq_true_eq, decide_eq_false_iff_not, Bool.and_eq_true, Bool.or_eq_true, Bool.and_eq_false_iff, Bool.or_eq_false_iff, Bool.not_eq_true', Bool.not_eq_false', beq_iff_eq, bne_iff_ne]; omega) | simp_all) ?_
    refine CW.skip ?_
    refine thenE_norm (h6 _ _ ?_); clear h6; try clear K6
    refine CW.seq (fun K8 h8 => ?_)
    refine CW.region ?_
    refine r_move rfl ?_
    refine r_convI rfl Try.underlying5 Try.underlying3 rfl (wr_i64 (by omega) (by omega)) ?_
    refine r_rem rfl rfl rfl (by omega) (by omega) (wr_i64 (by omega) (by omega)) ?_
    refine r_add rfl rfl rfl (wr_i64 (by omega) (by omega)) ?_
    refine r_assign rfl ?_
    refine LW.nil ?_
    refine thenE_norm (h8 _ _ ?_); clear h8; try clear K8
    refine CW.seq (fun K9 h9 => ?_)
    generalize hsl : 1 + sb % 9 = sl at *
    have hs0 : 1 ≤ sl := by omega
    have hs9 : sl ≤ 9 := by omega
    refine CW.region ?_
    refine r_move rfl ?_
    refine r_call rfl Try.call16 (by simp only [List.map_cons, List.map_nil, List.map_toArray, List.toList_toArray, upd_get, ev, Nat.reduceEqDiff, ↓reduceIte] <;> rfl) (BatchN_c _ (SH.rsR H (i := 1) rfl) hl) ?_
    rintro _ w7_1 ⟨v7_1, g7_1, rfl, hm7_1, hs7_1, K⟩
    refine ⟨_, rfl, ?_⟩
    replace H := SH.call H K
    clear K
    try dsimp only [replC, List.cons_append, List.nil_append, List.append_nil] at H
    refine s_alloc (cs := [.bool false, .int .i64 0, .int .i64 0, .int .i64 0, .int .i64 0, .slice none 0 0]) H rfl Try.zeroValue27 rfl ?_
    clear H
    intro b7_2 w7_2 H
    try dsimp only [replC, List.cons_append, List.nil_append, List.append_nil, agg, cellsL, Value.cells, List.toList_toArray, List.set_cons_zero, List.set_cons_succ, spliceL, List.take_succ_cons, List.take_zero, List.drop_succ_cons, List.drop_zero, List.length_cons, List.length_nil, Nat.reduceAdd, Row.cells, Cm.L, Rq.L, Tp.L, Bat.L, Ty.L, Act15.L] at H
    refine s_storeA H Try.sizeOf27 rfl (by simp only [upd_get, ev, Nat.reduceEqDiff, ↓reduceIte] <;> rfl) (by simp only [cellsL, agg, List.toList_toArray, Row.cells, Cm.L, Rq.L, Tp.L, Bat.L, Ty.L, Act15.L] <;> rfl) (by rfl) (by first | rfl | assumption | exact Rs.oneC (by first | assumption | exact SH.rsR H (by (repeat first | exact At.here | apply At.there); done) | exact SH.rsO H (by (repeat first | exact At.here | apply At.there); done) | exact (Rs.nil : Rs Non _ _ _)) | (simp only [List.all_cons, List.all_nil, Bool.and_true, Bool.and_eq_true, Row.cells, Cm.L, Rq.L, Tp.L, Bat.L, Ty.L, Act15.L]; (repeat' constructor) <;> first | rfl | assumption | exact Rs.oneC (by first | assumption | exact SH.rsR H (by (repeat first | exact At.here | apply At.there); done) | exact SH.rsO H (by (repeat first | exact At.here | apply At.there); done) | exact (Rs.nil : Rs Non _ _ _)))) (by (repeat first | exact At.here | apply At.there); done) (by first | (simp; done) | decide | (show _ ≤ _; decide)) ?_
    clear H
    intro w7_3 H
    try dsimp only [replC, List.cons_append, List.nil_append, List.append_nil, agg, cellsL, Value.cells, List.toList_toArray, List.set_cons_zero, List.set_cons_succ, spliceL, List.take_succ_cons, List.take_zero, List.drop_succ_cons, List.drop_zero, List.length_cons, List.length_nil, Nat.reduceAdd, Row.cells, Cm.L, Rq.L, Tp.L, Bat.L, Ty.L, Act15.L] at H
    refine LW.nil ?_
    refine thenE_norm ?_
    refine cut (K := K9) [0, 7, 8, 9] (fun σ => ?_)
    simp only [setL, keepE, upd_get, ev, Nat.reduceEqDiff, ↓reduceIte]
    refine h9 _ _ ?_; clear h9; try clear K9
    refine CW.seq (fun K10 h10 => ?_)
    refine CW.seq (fun K11 h11 => ?_)
    have hst1 := stay1 (x := ⟨(batN ns).fill, (batN ns).view, ⟨(batN ns).tip.view, (batN ns).tip.slot⟩, (batN ns).time, v7_1⟩) (rs := (batN ns).rs) ⟨hs0, hs9⟩ hm7_1
    have hst2 := stay2 (x := ⟨(batN ns).fill, (batN ns).view, ⟨(batN ns).tip.view, (batN ns).tip.slot⟩, (batN ns).time, v7_1⟩) (rs := (batN ns).rs) ⟨hs0, hs9⟩ hm7_1
    refine CW.region ?_
    refine r_move rfl ?_
    refine r_move rfl ?_
    refine r_loadA rfl Try.isAgg27 Try.sizeOf27 rfl (by first | exact SH.cells H (by (repeat first | exact At.here | apply At.there); done)) (by rfl) ?_
    refine r_call rfl Try.call23 (by simp only [List.map_cons, List.map_nil, List.map_toArray, List.toList_toArray, upd_get, ev, Nat.reduceEqDiff, ↓reduceIte] <;> rfl) (Hear_c 0 2 _ ⟨_, _, ⟨_, _⟩, _, _⟩ _ (SH.prop H (i := 2) rfl) (SH.rsO H (i := 3) rfl) (SH.apartPO H (i := 2) (j := 3) rfl rfl (by decide)) hs7_1) ?_
    rintro _ w8_3 ⟨FN8_3, rfl, K⟩
    refine ⟨_, rfl, ?_⟩
    replace H := SH.updP H (i := 2) rfl K
    clear K
    try dsimp only [replC, List.cons_append, List.nil_append, List.append_nil] at H
    rw [hst1] at H ⊢
    dsimp only at H ⊢
    refine r_neq rfl rfl rfl ?_
    refine r_move rfl ?_
    refine LW.known (t := 42) (c := false) rfl (by first | rfl | (simp only [decide_eq_true_eq, decide_eq_false_iff_not, Bool.and_eq_true, Bool.or_eq_true, Bool.and_eq_false_iff, Bool.or_eq_false_iff, Bool.not_eq_true', Bool.not_eq_false', beq_iff_eq, bne_iff_ne]; omega) | simp_all) (fun hg8_6 => ?_)
    refine LW.want rfl rfl hg8_6 ?_
    refine r_move rfl ?_
    refine LW.want rfl rfl hg8_6 ?_
    refine r_move rfl ?_
    refine LW.want rfl rfl hg8_6 ?_
    refine r_loadA rfl Try.isAgg27 Try.sizeOf27 rfl (by first | exact SH.cells H (by (repeat first | exact At.here | apply At.there); done)) (by rfl) ?_
    refine LW.want rfl rfl hg8_6 ?_
    refine r_call rfl Try.call23 (by simp only [List.map_cons, List.map_nil, List.map_toArray, List.toList_toArray, upd_get, ev, Nat.reduceEqDiff, ↓reduceIte] <;> rfl) (Hear_c 1 2 _ ⟨_, _, ⟨_, _⟩, _, _⟩ _ (SH.prop H (i := 2) rfl) (SH.rsO H (i := 3) rfl) (SH.apartPO H (i := 2) (j := 3) rfl rfl (by decide)) hs7_1) ?_
    rintro _ w8_9 ⟨FN8_9, rfl, K⟩
    refine ⟨_, rfl, ?_⟩
    replace H := SH.updP H (i := 2) rfl K
    clear K
    try dsimp only [replC, List.cons_append, List.nil_append, List.append_nil] at H
    rw [hst2] at H ⊢
    dsimp only at H ⊢
    refine LW.want rfl rfl hg8_6 ?_
    refine r_neq rfl rfl rfl ?_
    refine r_pickF rfl rfl hg8_6 ?_
    refine LW.nil ?_
    refine thenE_norm ?_
    refine cut (K := K11) [0, 7, 8, 9, 48] (fun σ => ?_)
    simp only [setL, keepE, upd_get, ev, Nat.reduceEqDiff, ↓reduceIte]
    refine h11 _ _ ?_; clear h11; try clear K11
    refine CW.condF rfl (by first | rfl | (simp only [decide_eq_true_eq, decide_eq_false_iff_not, Bool.and_eq_true, Bool.or_eq_true, Bool.and_eq_false_iff, Bool.or_eq_false_iff, Bool.not_eq_true', Bool.not_eq_false', beq_iff_eq, bne_iff_ne]; omega) | simp_all) ?_
    refine CW.skip ?_
    refine thenE_norm (h10 _ _ ?_); clear h10; try clear K10
    refine CW.seq (fun K12 h12 => ?_)
    refine CW.seq (fun K13 h13 => ?_)
    generalize hT : heardB 2 ⟨(batN ns).fill, (batN ns).view, ⟨(batN ns).tip.view, (batN ns).tip.slot⟩, (batN ns).time, v7_1⟩ (batN ns).rs [0, 1] = T at *
    have hT3 : chosenT 3 (some T) = true := by rw [← hT]; rfl
    have hTb : sameBat T.fill T.view ⟨T.tip.view, T.tip.slot⟩ T.time T.rs (batN ns).fill (batN ns).view ⟨(batN ns).tip.view, (batN ns).tip.slot⟩ (batN ns).time (batN ns).rs = true := by rw [← hT]; exact decide_eq_true ⟨rfl, rfl, rfl, rfl, rfl, rfl⟩
    have hS0 : StS ⟨3, 0, [(sl, T)]⟩ sl T := ⟨rfl, by dsimp only; omega, by dsimp only; rw [lookM, if_pos rfl]⟩
    refine CW.region ?_
    refine r_assign rfl ?_
    refine LW.nil ?_
    refine thenE_norm (h13 _ _ ?_); clear h13; try clear K13
    refine CW.block ?_
    refine CW.loopR [0, 7, 8, 9] [10] (fun m vs w' => ∃ (i : Nat) (S : LnS) (FN : Nat → Prop), vs = [.int .i64 i] ∧ i ≤ acts.length ∧ m = acts.length - i ∧ StS S sl T ∧ SH Non Any w w' [.R (Old w) v0 acts, .P FN (LrnA p S FN), .O 32 v7_1 (batN ns).rs g7_1, .B b7_2 27 [.bool (batN ns).fill, .int .i64 (batN ns).view, .int .i64 (batN ns).tip.view, .int .i64 (batN ns).tip.slot, .int .i64 (batN ns).time, v7_1]]) (acts.length) ?_ ?_
    · exact ⟨0, _, _, rfl, by omega, by omega, hS0, SH.sel H [0, 2, 3, 4] (by decide) rfl⟩
    try clear H
    rintro n1 vs1 wL1 σ ⟨i, S, FN, rfl, hi, rfl, hS, H⟩
    simp only [setL, keepE, upd_get, ev, Nat.reduceEqDiff, ↓reduceIte]
    refine CW.seq (fun K14 h14 => ?_)
    refine CW.seq (fun K15 h15 => ?_)
    refine CW.region ?_
    refine r_move rfl ?_
    refine r_move rfl ?_
    first
      | refine r_lenV rfl Try.underlying63 (by simp only [upd_get, ev, Nat.reduceEqDiff, ↓reduceIte] <;> rfl) (by first | assumption | exact SH.rsR H (by (repeat first | exact At.here | apply At.there); done) | exact SH.rsO H (by (repeat first | exact At.here | apply At.there); done) | exact (Rs.nil : Rs Non _ _ _)) ?_
      | refine r_len rfl Try.underlying63 rfl ?_
    refine r_lss rfl rfl rfl ?_
    refine LW.nil ?_
    refine thenE_norm (h15 _ _ ?_); clear h15; try clear K15
    refine CW.cond rfl (fun hc4 => ?_) (fun hc4 => ?_)
    · try simp only [decide_eq_true_eq, decide_eq_false_iff_not, Bool.and_eq_true, Bool.or_eq_true, Bool.and_eq_false_iff, Bool.or_eq_false_iff, Bool.not_eq_true', Bool.not_eq_false', beq_iff_eq, bne_iff_ne, ne_eq, Decidable.not_not] at hc4
      refine CW.skip ?_
      refine thenE_norm (h14 _ _ ?_); clear h14; try clear K14
      refine CW.seq (fun K16 h16 => ?_)
      refine CW.block ?_
      refine CW.seq (fun K17 h17 => ?_)
      obtain ⟨a, ha⟩ := get_of_lt (show i < acts.length by omega)
      obtain ⟨xs, hxs, hxl⟩ := hg a (List.mem_of_getElem? ha)
      obtain ⟨c1, c2, c3, c4, c5⟩ := a
      dsimp only at hxs
      have hoa : oneC c4 = true := Rs.oneC hxs
      refine CW.region ?_
      refine r_move rfl ?_
      refine r_move rfl ?_
      refine r_indexAddrV rfl Try.underlying63 (by simp only [upd_get, ev, Nat.reduceEqDiff, ↓reduceIte] <;> rfl) rfl (by first | assumption | exact SH.rsR H (by (repeat first | exact At.here | apply At.there); done) | exact SH.rsO H (by (repeat first | exact At.here | apply At.there); done) | exact (Rs.nil : Rs Non _ _ _)) (by exact Try.sizeOf67) (by omega) (by omega) ?_
      refine r_loadA rfl Try.isAgg67 Try.sizeOf67 rfl (by first | exact Rs.cells0 (by first | assumption | exact SH.rsR H (by (repeat first | exact At.here | apply At.there); done) | exact SH.rsO H (by (repeat first | exact At.here | apply At.there); done) | exact (Rs.nil : Rs Non _ _ _)) (by assumption)) (by rfl) ?_
      refine s_alloc (cs := [.int .i64 0, .int .i64 0, .int .i64 0, .slice none 0 0, .bool false]) H rfl Try.zeroValue67 rfl ?_
      clear H
      intro b13_4 w13_4 H
      try dsimp only [replC, List.cons_append, List.nil_append, List.append_nil, agg, cellsL, Value.cells, List.toList_toArray, List.set_cons_zero, List.set_cons_succ, spliceL, List.take_succ_cons, List.take_zero, List.drop_succ_cons, List.drop_zero, List.length_cons, List.length_nil, Nat.reduceAdd, Row.cells, Cm.L, Rq.L, Tp.L, Bat.L, Ty.L, Act15.L] at H
      refine s_storeA H Try.sizeOf67 rfl (by simp only [upd_get, ev, Nat.reduceEqDiff, ↓reduceIte] <;> rfl) (by simp only [cellsL, agg, List.toList_toArray, Row.cells, Cm.L, Rq.L, Tp.L, Bat.L, Ty.L, Act15.L] <;> rfl) (by rfl) (by first | rfl | assumption | exact Rs.oneC (by first | assumption | exact SH.rsR H (by (repeat first | exact At.here | apply At.there); done) | exact SH.rsO H (by (repeat first | exact At.here | apply At.there); done) | exact (Rs.nil : Rs Non _ _ _)) | (simp only [List.all_cons, List.all_nil, Bool.and_true, Bool.and_eq_true, Row.cells, Cm.L, Rq.L, Tp.L, Bat.L, Ty.L, Act15.L]; (repeat' constructor) <;> first | rfl | assumption | exact Rs.oneC (by first | assumption | exact SH.rsR H (by (repeat first | exact At.here | apply At.there); done) | exact SH.rsO H (by (repeat first | exact At.here | apply At.there); done) | exact (Rs.nil : Rs Non _ _ _)))) (by (repeat first | exact At.here | apply At.there); done) (by first | (simp; done) | decide | (show _ ≤ _; decide)) ?_
      clear H
      intro w13_5 H
      try dsimp only [replC, List.cons_append, List.nil_append, List.append_nil, agg, cellsL, Value.cells, List.toList_toArray, List.set_cons_zero, List.set_cons_succ, spliceL, List.take_succ_cons, List.take_zero, List.drop_succ_cons, List.drop_zero, List.length_cons, List.length_nil, Nat.reduceAdd, Row.cells, Cm.L, Rq.L, Tp.L, Bat.L, Ty.L, Act15.L] at H
      refine LW.nil ?_
      refine thenE_norm ?_
      refine cut (K := K17) [0, 7, 8, 9, 10, 11] (fun σ => ?_)
      simp only [setL, keepE, upd_get, ev, Nat.reduceEqDiff, ↓reduceIte]
      refine h17 _ _ ?_; clear h17; try clear K17
      refine CW.seq (fun K18 h18 => ?_)
      refine CW.region ?_
      refine r_fieldAddrO rfl Try.underlying67 rfl Try.sizeOf3 (by decide) (show _ = 2 from rfl) rfl ?_
      refine r_load rfl Try.isAgg3 rfl (by first | exact SH.cellB H (by (repeat first | exact At.here | apply At.there); done) (by rfl) | assumption) ?_
      refine r_assign rfl ?_
      refine LW.nil ?_
      refine thenE_norm (h18 _ _ ?_); clear h18; try clear K18
      refine CW.seqJ [0, 7, 8, 9, 10] [] (fun vs w' => ∃ (S' : LnS) (FN' : Nat → Prop), vs = [] ∧ StS S' sl T ∧ SH Non Any w w' [.R (Old w) v0 acts, .P FN' (LrnA p S' FN'), .O 32 v7_1 (batN ns).rs g7_1, .B b7_2 27 [.bool (batN ns).fill, .int .i64 (batN ns).view, .int .i64 (batN ns).tip.view, .int .i64 (batN ns).tip.slot, .int .i64 (batN ns).time, v7_1]]) ?_ ?_
      · refine CW.seq (fun K20 h20 => ?_)
        refine CW.region ?_
        refine r_fieldAddrO rfl Try.underlying67 rfl Try.sizeOf4 (by decide) (show _ = 4 from rfl) rfl ?_
        refine r_load rfl Try.isAgg4 rfl (by first | exact SH.cellB H (by (repeat first | exact At.here | apply At.there); done) (by rfl) | assumption) ?_
        refine LW.nil ?_
        refine thenE_norm (h20 _ _ ?_); clear h20; try clear K20
        refine CW.cond rfl (fun hc5 => ?_) (fun hc5 => ?_)
        · try simp only [decide_eq_true_eq, decide_eq_false_iff_not, Bool.and_eq_true, Bool.or_eq_true, Bool.and_eq_false_iff, Bool.or_eq_false_iff, Bool.not_eq_true', Bool.not_eq_false', beq_iff_eq, bne_iff_ne, ne_eq, Decidable.not_not] at hc5
          refine CW.seq (fun K21 h21 => ?_)
          refine CW.region ?_
          refine r_move rfl ?_
          refine r_move rfl ?_
          refine r_sub rfl rfl rfl (wr_i64 (by omega) (by omega)) ?_
          refine r_min rfl (by simp only [upd_get, ev, Nat.reduceEqDiff, ↓reduceIte] <;> rfl) (by simp only [upd_get, ev, Nat.reduceEqDiff, ↓reduceIte] <;> rfl) ?_
          refine r_assign rfl ?_
          refine LW.nil ?_
          refine thenE_norm ?_
          refine cut (K := K21) [0, 7, 8, 9, 10, 12] (fun σ => ?_)
          simp only [setL, keepE, upd_get, ev, Nat.reduceEqDiff, ↓reduceIte]
          refine h21 _ _ ?_; clear h21; try clear K21
          refine CW.region ?_
          refine r_move rfl ?_
          refine r_move rfl ?_
          refine r_call rfl Try.call34 (by simp only [List.map_cons, List.map_nil, List.map_toArray, List.toList_toArray, upd_get, ev, Nat.reduceEqDiff, ↓reduceIte] <;> rfl) (TrimL_c _ _ (SH.prop H (by (repeat first | exact At.here | apply At.there); done))) ?_
          rintro _ w17_2 ⟨FN17_2, rfl, K⟩
          refine ⟨_, rfl, ?_⟩
          replace H := SH.updP H (by (repeat first | exact At.here | apply At.there); done) K
          clear K
          try dsimp only [replC, List.cons_append, List.nil_append, List.append_nil] at H
          refine LW.nil ?_
          refine thenE_norm ?_
          exact ⟨rfl, _, _, rfl, st_trim hS (by omega), SH.sel H [0, 1, 2, 3] (by decide) rfl⟩
        · try simp only [decide_eq_true_eq, decide_eq_false_iff_not, Bool.and_eq_true, Bool.or_eq_true, Bool.and_eq_false_iff, Bool.or_eq_false_iff, Bool.not_eq_true', Bool.not_eq_false', beq_iff_eq, bne_iff_ne, ne_eq, Decidable.not_not] at hc5
          refine CW.seq (fun K22 h22 => ?_)
          refine CW.region ?_
          refine r_move rfl ?_
          refine r_move rfl ?_
          refine r_call rfl Try.call26 (by simp only [List.map_cons, List.map_nil, List.map_toArray, List.toList_toArray, upd_get, ev, Nat.reduceEqDiff, ↓reduceIte] <;> rfl) (Heard_c _ _ (SH.prop H (by (repeat first | exact At.here | apply At.there); done))) ?_
          rintro _ w18_2 ⟨v18_2, g18_2, rfl, K⟩
          refine ⟨_, rfl, ?_⟩
          replace H := SH.call H K
          clear K
          try dsimp only [replC, List.cons_append, List.nil_append, List.append_nil] at H
          rw [hS.2.2] at H ⊢
          refine r_move rfl ?_
          refine r_extract rfl (by simp only [upd_get, ev, Nat.reduceEqDiff, ↓reduceIte] <;> rfl) (by simp only [List.getElem?_toArray, List.getElem?_cons_zero, List.getElem?_cons_succ] <;> rfl) ?_
          refine r_extract rfl (by simp only [upd_get, ev, Nat.reduceEqDiff, ↓reduceIte] <;> rfl) (by simp only [List.getElem?_toArray, List.getElem?_cons_zero, List.getElem?_cons_succ] <;> rfl) ?_
          refine r_assign rfl ?_
          refine r_assign rfl ?_
          refine LW.nil ?_
          refine thenE_norm ?_
          refine cut (K := K22) [0, 7, 8, 9, 10, 11, 12, 13, 14] (fun σ => ?_)
          simp only [setL, keepE, upd_get, ev, Nat.reduceEqDiff, ↓reduceIte]
          refine h22 _ _ ?_; clear h22; try clear K22
          refine CW.seq (fun K23 h23 => ?_)
          refine CW.drawP [4] [] H (by dsimp only [pickC, nthC] <;> rfl) (by repeat first | exact List.Sublist.refl _ | exact List.nil_sublist _ | apply List.Sublist.cons_cons | apply List.Sublist.cons) (by kernel_rfl) rfl ?_
          clear H
          intro w19d H
          refine DL.take (i := 0) [] rfl (by kernel_rfl) (by kernel_rfl) (by kernel_rfl) (by kernel_rfl) rfl rfl (fun u H => x_move ) (SH.sub H (by repeat first | exact List.Sublist.refl _ | exact List.nil_sublist _ | apply List.Sublist.cons_cons | apply List.Sublist.cons)) ?_
          refine DL.take (i := 1) [] rfl (by kernel_rfl) (by kernel_rfl) (by kernel_rfl) (by kernel_rfl) rfl rfl (fun u H => x_fieldAddrO Try.underlying67 rfl Try.sizeOf3 (by decide) (show _ = 0 from rfl) rfl) (SH.sub H (by repeat first | exact List.Sublist.refl _ | exact List.nil_sublist _ | apply List.Sublist.cons_cons | apply List.Sublist.cons)) ?_
          refine DL.take (i := 2) [] rfl (by kernel_rfl) (by kernel_rfl) (by kernel_rfl) (by kernel_rfl) rfl rfl (fun u H => x_load Try.isAgg3 rfl (by first | exact SH.cellB H (by (repeat first | exact At.here | apply At.there); done) (by rfl) | assumption)) (SH.sub H (by repeat first | exact List.Sublist.refl _ | exact List.nil_sublist _ | apply List.Sublist.cons_cons | apply List.Sublist.cons)) ?_
          refine DL.take (i := 3) [] rfl (by kernel_rfl) (by kernel_rfl) (by kernel_rfl) (by kernel_rfl) rfl rfl (fun u H => x_fieldAddrO Try.underlying67 rfl Try.sizeOf3 (by decide) (show _ = 1 from rfl) rfl) (SH.sub H (by repeat first | exact List.Sublist.refl _ | exact List.nil_sublist _ | apply List.Sublist.cons_cons | apply List.Sublist.cons)) ?_
          refine DL.take (i := 4) [] rfl (by kernel_rfl) (by kernel_rfl) (by kernel_rfl) (by kernel_rfl) rfl rfl (fun u H => x_load Try.isAgg3 rfl (by first | exact SH.cellB H (by (repeat first | exact At.here | apply At.there); done) (by rfl) | assumption)) (SH.sub H (by repeat first | exact List.Sublist.refl _ | exact List.nil_sublist _ | apply List.Sublist.cons_cons | apply List.Sublist.cons)) ?_
          refine DL.take (i := 5) [] rfl (by kernel_rfl) (by kernel_rfl) (by kernel_rfl) (by kernel_rfl) rfl rfl (fun u H => x_move ) (SH.sub H (by repeat first | exact List.Sublist.refl _ | exact List.nil_sublist _ | apply List.Sublist.cons_cons | apply List.Sublist.cons)) ?_
          refine DL.take (i := 6) [] rfl (by kernel_rfl) (by kernel_rfl) (by kernel_rfl) (by kernel_rfl) rfl rfl (fun u H => x_fieldAddrO Try.underlying67 rfl Try.sizeOf22 (by decide) (show _ = 3 from rfl) rfl) (SH.sub H (by repeat first | exact List.Sublist.refl _ | exact List.nil_sublist _ | apply List.Sublist.cons_cons | apply List.Sublist.cons)) ?_
          refine DL.take (i := 7) [] rfl (by kernel_rfl) (by kernel_rfl) (by kernel_rfl) (by kernel_rfl) rfl rfl (fun u H => x_load Try.isAgg22 rfl (by first | exact SH.cellB H (by (repeat first | exact At.here | apply At.there); done) (by rfl) | assumption)) (SH.sub H (by repeat first | exact List.Sublist.refl _ | exact List.nil_sublist _ | apply List.Sublist.cons_cons | apply List.Sublist.cons)) ?_
          refine DL.one (i := 8) (by kernel_rfl) rfl rfl ?_
          refine r_call rfl Try.call16 (by simp only [List.map_cons, List.map_nil, List.map_toArray, List.toList_toArray, upd_get, ev, Nat.reduceEqDiff, ↓reduceIte] <;> rfl) (BatchN_c _ (hxs.up0 (SH.ext H)) hxl) ?_
          rintro _ w19_8 ⟨v19_8, g19_8, rfl, hm19_8, hs19_8, K⟩
          refine ⟨_, rfl, ?_⟩
          replace H := SH.call H K
          clear K
          try dsimp only [replC, List.cons_append, List.nil_append, List.append_nil] at H
          refine LW.nil (thenE_norm ⟨fun _ => (SH.sub H (by repeat first | exact List.Sublist.refl _ | exact List.nil_sublist _ | apply List.Sublist.cons_cons | apply List.Sublist.cons)), ?_⟩)
          refine DL.one (i := 9) (by kernel_rfl) rfl rfl ?_
          refine r_call rfl Try.call23 (by simp only [List.map_cons, List.map_nil, List.map_toArray, List.toList_toArray, upd_get, ev, Nat.reduceEqDiff, ↓reduceIte] <;> rfl) (Hear_c _ _ _ ⟨_, _, ⟨_, _⟩, _, _⟩ _ (SH.prop H (i := 1) rfl) (SH.rsO H (i := 6) rfl) (SH.apartPO H (i := 1) (j := 6) rfl rfl (by decide)) hs19_8) ?_
          rintro _ w19_9 ⟨FN19_9, rfl, K⟩
          refine ⟨_, rfl, ?_⟩
          replace H := SH.updP H (i := 1) rfl K
          clear K
          try dsimp only [replC, List.cons_append, List.nil_append, List.append_nil] at H
          obtain ⟨hS', hne⟩ := st_hear (i := c1) (b := c2) (a := c3) (x := ⟨(batN xs).fill, (batN xs).view, ⟨(batN xs).tip.view, (batN xs).tip.slot⟩, (batN xs).time, v19_8⟩) (rs := (batN xs).rs) hS hT3
          refine LW.nil (thenE_norm ⟨fun _ => (SH.sub H (by repeat first | exact List.Sublist.refl _ | exact List.nil_sublist _ | apply List.Sublist.cons_cons | apply List.Sublist.cons)), ?_⟩)
          refine DL.take (i := 10) [] rfl (by kernel_rfl) (by kernel_rfl) (by kernel_rfl) (by kernel_rfl) rfl rfl (fun u H => x_assign ) (SH.sub H (by repeat first | exact List.Sublist.refl _ | exact List.nil_sublist _ | apply List.Sublist.cons_cons | apply List.Sublist.cons)) ?_
          refine DL.done (by kernel_rfl) ?_
          refine thenE_norm ?_
          refine cut (K := K23) [0, 7, 8, 9, 10, 12, 13, 14, 15] (fun σ => ?_)
          simp only [setL, keepE, upd_get, ev, Nat.reduceEqDiff, ↓reduceIte]
          refine h23 _ _ ?_; clear h23; try clear K23
          refine CW.seq (fun K24 h24 => ?_)
          refine CW.region ?_
          refine r_move rfl ?_
          refine r_move rfl ?_
          refine r_call rfl Try.call26 (by simp only [List.map_cons, List.map_nil, List.map_toArray, List.toList_toArray, upd_get, ev, Nat.reduceEqDiff, ↓reduceIte] <;> rfl) (Heard_c _ _ (SH.prop H (i := 1) rfl)) ?_
          rintro _ w20_2 ⟨v20_2, g20_2, rfl, K⟩
          refine ⟨_, rfl, ?_⟩
          replace H := SH.call H K
          clear K
          try dsimp only [replC, List.cons_append, List.nil_append, List.append_nil] at H
          rw [show lookM (hearM S c1 c2 c3 ⟨(batN xs).fill, (batN xs).view, ⟨(batN xs).tip.view, (batN xs).tip.slot⟩, (batN xs).time, v19_8⟩ (batN xs).rs).1.heard sl = some T from hS'.2.2] at H ⊢
          refine r_move rfl ?_
          refine r_extract rfl (by simp only [upd_get, ev, Nat.reduceEqDiff, ↓reduceIte] <;> rfl) (by simp only [List.getElem?_toArray, List.getElem?_cons_zero, List.getElem?_cons_succ] <;> rfl) ?_
          refine r_extract rfl (by simp only [upd_get, ev, Nat.reduceEqDiff, ↓reduceIte] <;> rfl) (by simp only [List.getElem?_toArray, List.getElem?_cons_zero, List.getElem?_cons_succ] <;> rfl) ?_
          refine r_assign rfl ?_
          refine r_assign rfl ?_
          refine LW.nil ?_
          refine thenE_norm ?_
          refine cut (K := K24) [0, 7, 8, 9, 10, 12, 13, 14, 15, 16, 17] (fun σ => ?_)
          simp only [setL, keepE, upd_get, ev, Nat.reduceEqDiff, ↓reduceIte]
          refine h24 _ _ ?_; clear h24; try clear K24
          refine CW.seq (fun K25 h25 => ?_)
          by_cases heq : c3 = sl
          · refine CW.region ?_
            refine r_move rfl ?_
            refine r_move rfl ?_
            refine r_eql rfl rfl rfl ?_
            refine r_move rfl ?_
            refine LW.known (t := 95) (c := true) rfl (decide_eq_true heq) (fun hg21_4 => ?_)
            refine LW.want rfl rfl hg21_4 ?_
            refine r_move rfl ?_
            refine LW.want rfl rfl hg21_4 ?_
            refine r_eql rfl rfl rfl ?_
            refine r_pickT rfl rfl hg21_4 ?_
            refine r_move rfl ?_
            refine LW.known (t := 99) (c := false) rfl (decide_eq_false (hne heq)) (fun hg21_8 => ?_)
            refine LW.want rfl rfl hg21_8 ?_
            refine r_move rfl ?_
            refine LW.want rfl rfl hg21_8 ?_
            refine r_move rfl ?_
            refine LW.want rfl rfl hg21_8 ?_
            refine r_neq rfl rfl rfl ?_
            refine r_pickF rfl rfl hg21_8 ?_
            refine r_move rfl ?_
            refine LW.known (t := 104) (c := false) rfl (by simp) (fun hg21_13 => ?_)
            refine LW.want rfl rfl hg21_13 ?_
            refine r_move rfl ?_
            refine LW.want rfl rfl hg21_13 ?_
            refine r_move rfl ?_
            refine LW.want rfl rfl hg21_13 ?_
            refine r_call rfl Try.call39 (by simp only [List.map_cons, List.map_nil, List.map_toArray, List.toList_toArray, upd_get, ev, Nat.reduceEqDiff, ↓reduceIte] <;> rfl) (SameInts_c _ (SH.rsO H (i := 5) rfl) (SH.rsO H (i := 7) rfl)) ?_
            rintro _ w21_15 ⟨rfl, X⟩
            refine ⟨_, rfl, ?_⟩
            replace H := SH.same H X
            clear X
            refine LW.want rfl rfl hg21_13 ?_
            refine r_not rfl rfl ?_
            refine r_pickF rfl rfl hg21_13 ?_
            refine LW.nil ?_
            refine thenE_norm ?_
            refine cut (K := K25) [0, 7, 8, 9, 10, 109] (fun σ => ?_)
            simp only [setL, keepE, upd_get, ev, Nat.reduceEqDiff, ↓reduceIte]
            refine h25 _ _ ?_; clear h25; try clear K25
            refine CW.condF rfl (by simp) ?_
            refine CW.skip ?_
            refine thenE_norm ?_
            exact ⟨rfl, _, _, rfl, hS', SH.sel H [0, 1, 2, 3] (by decide) rfl⟩
          · refine CW.region ?_
            refine r_move rfl ?_
            refine r_move rfl ?_
            refine r_eql rfl rfl rfl ?_
            refine r_move rfl ?_
            refine LW.known (t := 95) (c := false) rfl (decide_eq_false heq) (fun hg21_4 => ?_)
            refine LW.skip rfl (fun _ e => by cases e; decide) rfl hg21_4 ?_
            refine LW.skip rfl (fun _ e => by cases e; decide) rfl hg21_4 ?_
            refine r_pickF rfl rfl hg21_4 ?_
            refine r_move rfl ?_
            refine LW.known (t := 99) (c := false) rfl (by first | rfl | (simp only [decide_eq_true_eq, decide_eq_false_iff_not, Bool.and_eq_true, Bool.or_eq_true, Bool.and_eq_false_iff, Bool.or_eq_false_iff, Bool.not_eq_true', Bool.not_eq_false', beq_iff_eq, bne_iff_ne]; omega) | simp_all) (fun hg21_8 => ?_)
            refine LW.want rfl rfl hg21_8 ?_
            refine r_move rfl ?_
            refine LW.want rfl rfl hg21_8 ?_
            refine r_move rfl ?_
            refine LW.want rfl rfl hg21_8 ?_
            refine r_neq rfl rfl rfl ?_
            refine r_pickF rfl rfl hg21_8 ?_
            refine r_move rfl ?_
            refine LW.known (t := 104) (c := false) rfl (by simp) (fun hg21_13 => ?_)
            refine LW.want rfl rfl hg21_13 ?_
            refine r_move rfl ?_
            refine LW.want rfl rfl hg21_13 ?_
            refine r_move rfl ?_
            refine LW.want rfl rfl hg21_13 ?_
            refine r_call rfl Try.call39 (by simp only [List.map_cons, List.map_nil, List.map_toArray, List.toList_toArray, upd_get, ev, Nat.reduceEqDiff, ↓reduceIte] <;> rfl) (SameInts_c _ (SH.rsO H (i := 5) rfl) (SH.rsO H (i := 7) rfl)) ?_
            rintro _ w21_15 ⟨rfl, X⟩
            refine ⟨_, rfl, ?_⟩
            replace H := SH.same H X
            clear X
            refine LW.want rfl rfl hg21_13 ?_
            refine r_not rfl rfl ?_
            refine r_pickF rfl rfl hg21_13 ?_
            refine LW.nil ?_
            refine thenE_norm ?_
            refine cut (K := K25) [0, 7, 8, 9, 10, 109] (fun σ => ?_)
            simp only [setL, keepE, upd_get, ev, Nat.reduceEqDiff, ↓reduceIte]
            refine h25 _ _ ?_; clear h25; try clear K25
            refine CW.condF rfl (by simp) ?_
            refine CW.skip ?_
            refine thenE_norm ?_
            exact ⟨rfl, _, _, rfl, hS', SH.sel H [0, 1, 2, 3] (by decide) rfl⟩
      try clear H
      rintro vs wJ σ ⟨S', FN', rfl, hS', H⟩
      simp only [setL, keepE, upd_get, ev, Nat.reduceEqDiff, ↓reduceIte]
      have hch : chosenT S'.n (lookM S'.heard sl) = true := by rw [hS'.1, hS'.2.2]; exact hT3
      have hout : outT S'.n (lookM S'.heard sl) = T := by rw [outT, hch, if_pos rfl, hS'.2.2]; rfl
      refine CW.seq (fun K26 h26 => ?_)
      refine CW.region ?_
      refine r_move rfl ?_
      refine r_move rfl ?_
      refine r_call rfl Try.call24 (by simp only [List.map_cons, List.map_nil, List.map_toArray, List.toList_toArray, upd_get, ev, Nat.reduceEqDiff, ↓reduceIte] <;> rfl) (Chosen_c _ _ (SH.prop H (i := 1) rfl)) ?_
      rintro _ w23_2 ⟨v23_2, g23_2, rfl, K⟩
      refine ⟨_, rfl, ?_⟩
      replace H := SH.call H K
      clear K
      try dsimp only [replC, List.cons_append, List.nil_append, List.append_nil] at H
      rw [hout] at H ⊢
      rw [hch]
      refine r_move rfl ?_
      refine r_extract rfl (by simp only [upd_get, ev, Nat.reduceEqDiff, ↓reduceIte] <;> rfl) (by simp only [List.getElem?_toArray, List.getElem?_cons_zero, List.getElem?_cons_succ] <;> rfl) ?_
      refine r_extract rfl (by simp only [upd_get, ev, Nat.reduceEqDiff, ↓reduceIte] <;> rfl) (by simp only [List.getElem?_toArray, List.getElem?_cons_zero, List.getElem?_cons_succ] <;> rfl) ?_
      refine s_alloc (cs := [.bool false, .int .i64 0, .int .i64 0, .int .i64 0, .int .i64 0, .slice none 0 0]) H rfl Try.zeroValue27 rfl ?_
      clear H
      intro b23_6 w23_6 H
      try dsimp only [replC, List.cons_append, List.nil_append, List.append_nil, agg, cellsL, Value.cells, List.toList_toArray, List.set_cons_zero, List.set_cons_succ, spliceL, List.take_succ_cons, List.take_zero, List.drop_succ_cons, List.drop_zero, List.length_cons, List.length_nil, Nat.reduceAdd, Row.cells, Cm.L, Rq.L, Tp.L, Bat.L, Ty.L, Act15.L] at H
      refine s_storeA H Try.sizeOf27 rfl (by simp only [upd_get, ev, Nat.reduceEqDiff, ↓reduceIte] <;> rfl) (by simp only [cellsL, agg, List.toList_toArray, Row.cells, Cm.L, Rq.L, Tp.L, Bat.L, Ty.L, Act15.L] <;> rfl) (by rfl) (by first | rfl | assumption | exact Rs.oneC (by first | assumption | exact SH.rsR H (by (repeat first | exact At.here | apply At.there); done) | exact SH.rsO H (by (repeat first | exact At.here | apply At.there); done) | exact (Rs.nil : Rs Non _ _ _)) | (simp only [List.all_cons, List.all_nil, Bool.and_true, Bool.and_eq_true, Row.cells, Cm.L, Rq.L, Tp.L, Bat.L, Ty.L, Act15.L]; (repeat' constructor) <;> first | rfl | assumption | exact Rs.oneC (by first | assumption | exact SH.rsR H (by (repeat first | exact At.here | apply At.there); done) | exact SH.rsO H (by (repeat first | exact At.here | apply At.there); done) | exact (Rs.nil : Rs Non _ _ _)))) (by (repeat first | exact At.here | apply At.there); done) (by first | (simp; done) | decide | (show _ ≤ _; decide)) ?_
      clear H
      intro w23_7 H
      try dsimp only [replC, List.cons_append, List.nil_append, List.append_nil, agg, cellsL, Value.cells, List.toList_toArray, List.set_cons_zero, List.set_cons_succ, spliceL, List.take_succ_cons, List.take_zero, List.drop_succ_cons, List.drop_zero, List.length_cons, List.length_nil, Nat.reduceAdd, Row.cells, Cm.L, Rq.L, Tp.L, Bat.L, Ty.L, Act15.L] at H
      refine r_assign rfl ?_
      refine LW.nil ?_
      refine thenE_norm ?_
      refine cut (K := K26) [0, 7, 8, 9, 10, 18, 19] (fun σ => ?_)
      simp only [setL, keepE, upd_get, ev, Nat.reduceEqDiff, ↓reduceIte]
      refine h26 _ _ ?_; clear h26; try clear K26
      refine CW.seq (fun K27 h27 => ?_)
      refine CW.region ?_
      refine r_move rfl ?_
      refine r_not rfl rfl ?_
      refine r_move rfl ?_
      refine LW.known (t := 118) (c := false) rfl (by first | rfl | (simp only [decide_eq_true_eq, decide_eq_false_iff_not, Bool.and_eq_true, Bool.or_eq_true, Bool.and_eq_false_iff, Bool.or_eq_false_iff, Bool.not_eq_true', Bool.not_eq_false', beq_iff_eq, bne_iff_ne]; omega) | simp_all) (fun hg24_3 => ?_)
      refine LW.want rfl rfl hg24_3 ?_
      refine r_loadA rfl Try.isAgg27 Try.sizeOf27 rfl (by first | exact SH.cells H (by (repeat first | exact At.here | apply At.there); done)) (by rfl) ?_
      refine LW.want rfl rfl hg24_3 ?_
      refine r_loadA rfl Try.isAgg27 Try.sizeOf27 rfl (by first | exact SH.cells H (by (repeat first | exact At.here | apply At.there); done)) (by rfl) ?_
      refine LW.want rfl rfl hg24_3 ?_
      refine r_call rfl Try.call25 (by simp only [List.map_cons, List.map_nil, List.map_toArray, List.toList_toArray, upd_get, ev, Nat.reduceEqDiff, ↓reduceIte] <;> rfl) (SameBatR_c ⟨_, _, ⟨_, _⟩, _, _⟩ ⟨_, _, ⟨_, _⟩, _, _⟩ _ (SH.rsO H (i := 4) rfl) (SH.rsO H (i := 2) rfl)) ?_
      rintro _ w24_5 ⟨rfl, X⟩
      refine ⟨_, rfl, ?_⟩
      replace H := SH.same H X
      clear X
      refine LW.want rfl rfl hg24_3 ?_
      refine r_not rfl rfl ?_
      refine r_pickF rfl rfl hg24_3 ?_
      refine LW.nil ?_
      refine thenE_norm ?_
      refine cut (K := K27) [0, 7, 8, 9, 10, 123] (fun σ => ?_)
      simp only [setL, keepE, upd_get, ev, Nat.reduceEqDiff, ↓reduceIte]
      refine h27 _ _ ?_; clear h27; try clear K27
      refine CW.condF rfl (by rw [hTb]; rfl) ?_
      refine CW.skip ?_
      refine blockE_norm ?_
      refine thenE_norm (h16 _ _ ?_); clear h16; try clear K16
      refine CW.region ?_
      refine r_move rfl ?_
      refine r_add rfl rfl rfl (wr_i64 (by omega) (by omega)) ?_
      refine r_assign rfl ?_
      refine LW.nil ?_
      refine thenE_norm ⟨rfl, ?_⟩
      exact ⟨acts.length - (i + 1), by omega, i + 1, S', FN', rfl, by omega, rfl, hS', SH.sel H [0, 1, 2, 3] (by decide) rfl⟩
    · try simp only [decide_eq_true_eq, decide_eq_false_iff_not, Bool.and_eq_true, Bool.or_eq_true, Bool.and_eq_false_iff, Bool.or_eq_false_iff, Bool.not_eq_true', Bool.not_eq_false', beq_iff_eq, bne_iff_ne, ne_eq, Decidable.not_not] at hc4
      refine CW.exit (thenE_exit (thenE_exit (blockE_hit ?_)))
      refine thenE_norm (h12 _ _ ?_); clear h12; try clear K12
      refine CW.seq (fun K28 h28 => ?_)
      obtain ⟨hz1, hz2, hz3⟩ := st_gone hS hs9
      refine CW.region ?_
      refine r_move rfl ?_
      refine r_move rfl ?_
      refine r_call rfl Try.call34 (by simp only [List.map_cons, List.map_nil, List.map_toArray, List.toList_toArray, upd_get, ev, Nat.reduceEqDiff, ↓reduceIte] <;> rfl) (TrimL_c _ _ (SH.prop H (i := 1) rfl)) ?_
      rintro _ w26_2 ⟨FN26_2, rfl, K⟩
      refine ⟨_, rfl, ?_⟩
      replace H := SH.updP H (i := 1) rfl K
      clear K
      try dsimp only [replC, List.cons_append, List.nil_append, List.append_nil] at H
      generalize trimL S sl = S2 at *
      have hch2 : chosenT S2.n (lookM S2.heard sl) = false := by rw [hz3]; rfl
      have hcd := hear_done (s := S2) (i := 0) (b := 9) (sl := sl) (x := ⟨(batN ns).fill, (batN ns).view, ⟨(batN ns).tip.view, (batN ns).tip.slot⟩, (batN ns).time, v7_1⟩) (rs := (batN ns).rs) ⟨⟨by decide, by rw [hz1]; decide⟩, by decide, ⟨hs0, by omega⟩, hm7_1⟩ (.inl (by rw [hz2]; exact Int.le_refl _))
      refine LW.nil ?_
      refine thenE_norm (h28 _ _ ?_); clear h28; try clear K28
      refine CW.seq (fun K29 h29 => ?_)
      refine CW.region ?_
      refine r_move rfl ?_
      refine r_move rfl ?_
      refine r_call rfl Try.call24 (by simp only [List.map_cons, List.map_nil, List.map_toArray, List.toList_toArray, upd_get, ev, Nat.reduceEqDiff, ↓reduceIte] <;> rfl) (Chosen_c _ _ (SH.prop H (i := 1) rfl)) ?_
      rintro _ w27_2 ⟨v27_2, g27_2, rfl, K⟩
      refine ⟨_, rfl, ?_⟩
      replace H := SH.call H K
      clear K
      try dsimp only [replC, List.cons_append, List.nil_append, List.append_nil] at H
      rw [hch2]
      refine r_move rfl ?_
      refine r_extract rfl (by simp only [upd_get, ev, Nat.reduceEqDiff, ↓reduceIte] <;> rfl) (by simp only [List.getElem?_toArray, List.getElem?_cons_zero, List.getElem?_cons_succ] <;> rfl) ?_
      refine r_extract rfl (by simp only [upd_get, ev, Nat.reduceEqDiff, ↓reduceIte] <;> rfl) (by simp only [List.getElem?_toArray, List.getElem?_cons_zero, List.getElem?_cons_succ] <;> rfl) ?_
      refine s_alloc (cs := [.bool false, .int .i64 0, .int .i64 0, .int .i64 0, .int .i64 0, .slice none 0 0]) H rfl Try.zeroValue27 rfl ?_
      clear H
      intro b27_6 w27_6 H
      try dsimp only [replC, List.cons_append, List.nil_append, List.append_nil, agg, cellsL, Value.cells, List.toList_toArray, List.set_cons_zero, List.set_cons_succ, spliceL, List.take_succ_cons, List.take_zero, List.drop_succ_cons, List.drop_zero, List.length_cons, List.length_nil, Nat.reduceAdd, Row.cells, Cm.L, Rq.L, Tp.L, Bat.L, Ty.L, Act15.L] at H
      refine s_storeA H Try.sizeOf27 rfl (by simp only [upd_get, ev, Nat.reduceEqDiff, ↓reduceIte] <;> rfl) (by simp only [cellsL, agg, List.toList_toArray, Row.cells, Cm.L, Rq.L, Tp.L, Bat.L, Ty.L, Act15.L] <;> rfl) (by rfl) (by first | rfl | assumption | exact Rs.oneC (by first | assumption | exact SH.rsR H (by (repeat first | exact At.here | apply At.there); done) | exact SH.rsO H (by (repeat first | exact At.here | apply At.there); done) | exact (Rs.nil : Rs Non _ _ _)) | (simp only [List.all_cons, List.all_nil, Bool.and_true, Bool.and_eq_true, Row.cells, Cm.L, Rq.L, Tp.L, Bat.L, Ty.L, Act15.L]; (repeat' constructor) <;> first | rfl | assumption | exact Rs.oneC (by first | assumption | exact SH.rsR H (by (repeat first | exact At.here | apply At.there); done) | exact SH.rsO H (by (repeat first | exact At.here | apply At.there); done) | exact (Rs.nil : Rs Non _ _ _)))) (by (repeat first | exact At.here | apply At.there); done) (by first | (simp; done) | decide | (show _ ≤ _; decide)) ?_
      clear H
      intro w27_7 H
      try dsimp only [replC, List.cons_append, List.nil_append, List.append_nil, agg, cellsL, Value.cells, List.toList_toArray, List.set_cons_zero, List.set_cons_succ, spliceL, List.take_succ_cons, List.take_zero, List.drop_succ_cons, List.drop_zero, List.length_cons, List.length_nil, Nat.reduceAdd, Row.cells, Cm.L, Rq.L, Tp.L, Bat.L, Ty.L, Act15.L] at H
      refine r_assign rfl ?_
      refine LW.nil ?_
      refine thenE_norm ?_
      refine cut (K := K29) [7, 8, 9, 21] (fun σ => ?_)
      simp only [setL, keepE, upd_get, ev, Nat.reduceEqDiff, ↓reduceIte]
      refine h29 _ _ ?_; clear h29; try clear K29
      refine CW.seq (fun K30 h30 => ?_)
      refine CW.region ?_
      refine r_move rfl ?_
      refine r_move rfl ?_
      refine r_call rfl Try.call26 (by simp only [List.map_cons, List.map_nil, List.map_toArray, List.toList_toArray, upd_get, ev, Nat.reduceEqDiff, ↓reduceIte] <;> rfl) (Heard_c _ _ (SH.prop H (i := 1) rfl)) ?_
      rintro _ w28_2 ⟨v28_2, g28_2, rfl, K⟩
      refine ⟨_, rfl, ?_⟩
      replace H := SH.call H K
      clear K
      try dsimp only [replC, List.cons_append, List.nil_append, List.append_nil] at H
      rw [hz3] at H ⊢
      refine r_move rfl ?_
      refine r_extract rfl (by simp only [upd_get, ev, Nat.reduceEqDiff, ↓reduceIte] <;> rfl) (by simp only [List.getElem?_toArray, List.getElem?_cons_zero, List.getElem?_cons_succ] <;> rfl) ?_
      refine r_extract rfl (by simp only [upd_get, ev, Nat.reduceEqDiff, ↓reduceIte] <;> rfl) (by simp only [List.getElem?_toArray, List.getElem?_cons_zero, List.getElem?_cons_succ] <;> rfl) ?_
      refine r_assign rfl ?_
      refine r_assign rfl ?_
      refine LW.nil ?_
      refine thenE_norm ?_
      refine cut (K := K30) [7, 8, 9, 21, 22, 23] (fun σ => ?_)
      simp only [setL, keepE, upd_get, ev, Nat.reduceEqDiff, ↓reduceIte]
      refine h30 _ _ ?_; clear h30; try clear K30
      refine CW.seq (fun K31 h31 => ?_)
      refine CW.region ?_
      refine r_move rfl ?_
      refine r_not rfl rfl ?_
      refine r_move rfl ?_
      refine LW.known (t := 141) (c := true) rfl (by first | rfl | (simp only [decide_eq_true_eq, decide_eq_false_iff_not, Bool.and_eq_true, Bool.or_eq_true, Bool.and_eq_false_iff, Bool.or_eq_false_iff, Bool.not_eq_true', Bool.not_eq_false', beq_iff_eq, bne_iff_ne]; omega) | simp_all) (fun hg29_3 => ?_)
      refine LW.want rfl rfl hg29_3 ?_
      refine r_move rfl ?_
      refine LW.want rfl rfl hg29_3 ?_
      refine r_eql rfl rfl rfl ?_
      refine r_pickT rfl rfl hg29_3 ?_
      refine r_move rfl ?_
      refine LW.known (t := 145) (c := true) rfl (by first | rfl | (simp only [decide_eq_true_eq, decide_eq_false_iff_not, Bool.and_eq_true, Bool.or_eq_true, Bool.and_eq_false_iff, Bool.or_eq_false_iff, Bool.not_eq_true', Bool.not_eq_false', beq_iff_eq, bne_iff_ne]; omega) | simp_all) (fun hg29_7 => ?_)
      refine LW.want rfl rfl hg29_7 ?_
      refine r_move rfl ?_
      refine LW.want rfl rfl hg29_7 ?_
      first
        | refine r_lenV rfl Try.underlying41 (by simp only [upd_get, ev, Nat.reduceEqDiff, ↓reduceIte] <;> rfl) (by first | assumption | exact SH.rsR H (by (repeat first | exact At.here | apply At.there); done) | exact SH.rsO H (by (repeat first | exact At.here | apply At.there); done) | exact (Rs.nil : Rs Non _ _ _)) ?_
        | refine r_len rfl Try.underlying41 rfl ?_
      refine LW.want rfl rfl hg29_7 ?_
      refine r_eql rfl rfl rfl ?_
      refine r_pickT rfl rfl hg29_7 ?_
      refine r_move rfl ?_
      refine LW.known (t := 150) (c := true) rfl (by first | rfl | (simp only [decide_eq_true_eq, decide_eq_false_iff_not, Bool.and_eq_true, Bool.or_eq_true, Bool.and_eq_false_iff, Bool.or_eq_false_iff, Bool.not_eq_true', Bool.not_eq_false', beq_iff_eq, bne_iff_ne]; omega) | simp_all) (fun hg29_12 => ?_)
      refine LW.want rfl rfl hg29_12 ?_
      refine r_move rfl ?_
      refine LW.want rfl rfl hg29_12 ?_
      refine r_move rfl ?_
      refine LW.want rfl rfl hg29_12 ?_
      refine r_loadA rfl Try.isAgg27 Try.sizeOf27 rfl (by first | exact SH.cells H (by (repeat first | exact At.here | apply At.there); done)) (by rfl) ?_
      refine LW.want rfl rfl hg29_12 ?_
      refine r_call rfl Try.call23 (by simp only [List.map_cons, List.map_nil, List.map_toArray, List.toList_toArray, upd_get, ev, Nat.reduceEqDiff, ↓reduceIte] <;> rfl) (Hear_c 0 9 _ ⟨_, _, ⟨_, _⟩, _, _⟩ _ (SH.prop H (i := 1) rfl) (SH.rsO H (i := 2) rfl) (SH.apartPO H (i := 1) (j := 2) rfl rfl (by decide)) hs7_1) ?_
      rintro _ w29_15 ⟨FN29_15, rfl, K⟩
      refine ⟨_, rfl, ?_⟩
      replace H := SH.updP H (i := 1) rfl K
      clear K
      try dsimp only [replC, List.cons_append, List.nil_append, List.append_nil] at H
      rw [hcd] at H ⊢
      dsimp only at H ⊢
      refine LW.want rfl rfl hg29_12 ?_
      refine r_eql rfl rfl rfl ?_
      refine r_pickT rfl rfl hg29_12 ?_
      refine r_move rfl ?_
      refine LW.known (t := 157) (c := true) rfl (by first | rfl | (simp only [decide_eq_true_eq, decide_eq_false_iff_not, Bool.and_eq_true, Bool.or_eq_true, Bool.and_eq_false_iff, Bool.or_eq_false_iff, Bool.not_eq_true', Bool.not_eq_false', beq_iff_eq, bne_iff_ne]; omega) | simp_all) (fun hg29_19 => ?_)
      refine LW.want rfl rfl hg29_19 ?_
      refine r_move rfl ?_
      refine LW.want rfl rfl hg29_19 ?_
      refine r_call rfl Try.call40 (by simp only [List.map_cons, List.map_nil, List.map_toArray, List.toList_toArray, upd_get, ev, Nat.reduceEqDiff, ↓reduceIte] <;> rfl) (DoneL_c _ (SH.prop H (by (repeat first | exact At.here | apply At.there); done))) ?_
      rintro _ _ ⟨rfl, rfl⟩
      refine ⟨_, rfl, ?_⟩
      refine LW.want rfl rfl hg29_19 ?_
      refine r_move rfl ?_
      refine LW.want rfl rfl hg29_19 ?_
      refine r_eql rfl rfl rfl ?_
      refine r_pickT rfl rfl hg29_19 ?_
      refine r_move rfl ?_
      refine LW.known (t := 163) (c := true) rfl (decide_eq_true hz2) (fun hg29_25 => ?_)
      refine LW.want rfl rfl hg29_25 ?_
      refine r_call rfl Try.call22 (by simp only [List.map_cons, List.map_nil, List.map_toArray, List.toList_toArray, upd_get, ev, Nat.reduceEqDiff, ↓reduceIte] <;> rfl) (awake15_c _) ?_
      rintro _ w29_25 ⟨rfl, X⟩
      refine ⟨_, rfl, ?_⟩
      replace H := SH.same H X
      clear X
      refine r_pickT rfl rfl hg29_25 ?_
      refine r_assign rfl ?_
      refine LW.nil ?_
      refine thenE_norm ?_
      refine cut (K := K31) [6] (fun σ => ?_)
      simp only [setL, keepE, upd_get, ev, Nat.reduceEqDiff, ↓reduceIte]
      refine h31 _ _ ?_; clear h31; try clear K31
      refine CW.ret (ret1 Try.results8 (by simp only [upd_get, ev, Nat.reduceEqDiff, ↓reduceIte]; rfl) ?_)
      exact ⟨rfl, H.ext⟩
end Go.Proofs.Ytalieccfdmokmaa
