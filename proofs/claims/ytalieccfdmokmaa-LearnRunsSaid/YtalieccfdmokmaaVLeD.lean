/-
  The walks of layer 15's functions, the third part: what is chosen, what was heard; slots are forgotten.
-/
import Derived.Test.YtalieccfdmokmaaVLeC
namespace Go.Proofs.Ytalieccfdmokmaa
set_option linter.unusedSimpArgs false
set_option linter.unusedVariables false
set_option maxRecDepth 20000
open Go.V Go.RowKit Go.ChangeShapes Go.WideShapes

def zeroTm : Tm := ⟨0, false, 0, ⟨0, 0⟩, 0, [], []⟩
/-- What is told to be chosen. -/
def outT (n : Int) (o : Option Tm) : Tm := if chosenT n o = true then o.getD zeroTm else zeroTm
theorem key_eq (l : List TG) : (msT l).map (·.1) = (kvT l).map (·.1) := by simp [msT, kvT]
theorem msT_mem {l : List TG} {t : TG} (h : t ∈ l) : (t.k, t.m) ∈ msT l := List.mem_map.2 ⟨t, h, rfl⟩
set_option maxHeartbeats 8000000 in
theorem Chosen_c {p : Nat} {s : LnS} {FN : Nat → Prop} (sl : Int) (w : World) (hN : LrnA p s FN w) :
    Calls Try.prog 24 #[.pointer (some ⟨p, 0, none⟩), .int .i64 sl] w fun e w' => ∃ (v' : Value) (g : Option Nat), e = .returned (.tuple #[agg (⟨(outT s.n (lookM s.heard sl)).fill, (outT s.n (lookM s.heard sl)).view, (outT s.n (lookM s.heard sl)).tip, (outT s.n (lookM s.heard sl)).time, v'⟩ : Bat), .bool (chosenT s.n (lookM s.heard sl))]) ∧
      SH Non Non w w' [.O 32 v' (outT s.n (lookM s.heard sl)).rs g] := by
  obtain ⟨hok, bm, l, FH, h1, h2, hA⟩ := hN
  have H := SH.look hA
  simp only [List.map_cons, List.map_nil, toImm] at H
  obtain ⟨s1, s2, s3⟩ := s
  dsimp only at H h1 ⊢
  subst h1
  have hn0 : 1 ≤ s1 := hok.n0
  have hn1 : s1 ≤ 7 := hok.n1
  refine calls_of_CW Try.func24 rfl Try.ntmps24 (Nat.le_of_ble_eq_true rfl) ?_
  simp only [argE, argFrom, Nat.reduceAdd]
  refine CW.seq (fun K1 h1 => ?_)
  refine CW.region ?_
  refine s_alloc (cs := [.bool false, .int .i64 0, .int .i64 0, .int .i64 0, .int .i64 0, .slice none 0 0]) H rfl Try.zeroValue27 rfl ?_
  clear H
  intro b0_0 w0_0 H
  try dsimp only [replC, List.cons_append, List.nil_append, List.append_nil, agg, cellsL, Value.cells, List.toList_toArray, List.set_cons_zero, List.set_cons_succ, spliceL, List.take_succ_cons, List.take_zero, List.drop_succ_cons, List.drop_zero, List.length_cons, List.length_nil, Nat.reduceAdd, Row.cells, Cm.L, Rq.L, Tp.L, Bat.L, Ty.L] at H
  refine r_assign rfl ?_
  refine LW.nil ?_
  refine thenE_norm (h1 _ _ ?_); clear h1; try clear K1
  refine CW.seq (fun K2 h2 => ?_)
  refine CW.seq (fun K3 h3 => ?_)
  refine CW.region ?_
  refine r_move rfl ?_
  refine r_eqlP rfl Try.underlying42 rfl rfl ?_
  refine LW.nil ?_
  refine thenE_norm (h3 _ _ ?_); clear h3; try clear K3
  refine CW.condF rfl (by first | rfl | (simp only [decide_eq_true_eq, decide_eq_false_iff_not, Bool.and_eq_true, Bool.or_eq_true, Bool.and_eq_false_iff, Bool.or_eq_false_iff, Bool.not_eq_true', Bool.not_eq_false', beq_iff_eq, bne_iff_ne]; omega) | simp_all) ?_
  refine CW.skip ?_
  refine thenE_norm (h2 _ _ ?_); clear h2; try clear K2
  refine CW.seq (fun K4 h4 => ?_)
  rcases hlk : lookM (kvT l) sl with _ | y
  · have hlm := look_kv hlk
    have hz : chosenT s1 (lookM (msT l) sl) = false := by rw [hlm]; rfl
    refine CW.region ?_
    refine r_move rfl ?_
    refine r_nilCheck rfl rfl ?_
    refine r_fieldAddrO rfl Try.underlying104 rfl Try.sizeOf102 (by decide) (show _ = 2 from rfl) rfl ?_
    refine r_load rfl Try.isAgg102 rfl (by first | exact SH.cellB H (by (repeat first | exact At.here | apply At.there); done) (by rfl) | exact SH.cellI H (by (repeat first | exact At.here | apply At.there); done) (by rfl) | assumption) ?_
    refine r_move rfl ?_
    refine r_lookup1N rfl Try.underlying102 Try.underlying3 Try.zeroValue107 rfl rfl (SH.propI H (i := 1) rfl) hlk ?_
    refine s_alloc (cs := [.int .i64 0, .bool false, .int .i64 0, .int .i64 0, .int .i64 0, .int .i64 0, .slice none 0 0, .slice none 0 0]) H rfl Try.zeroValue107 rfl ?_
    clear H
    intro b3_6 w3_6 H
    try dsimp only [replC, List.cons_append, List.nil_append, List.append_nil, agg, cellsL, Value.cells, List.toList_toArray, List.set_cons_zero, List.set_cons_succ, spliceL, List.take_succ_cons, List.take_zero, List.drop_succ_cons, List.drop_zero, List.length_cons, List.length_nil, Nat.reduceAdd, Row.cells, Cm.L, Rq.L, Tp.L, Bat.L, Ty.L] at H
    refine s_storeA H Try.sizeOf107 rfl (by simp only [upd_get, ev, Nat.reduceEqDiff, ↓reduceIte] <;> rfl) (by simp only [cellsL, agg, List.toList_toArray, Row.cells, Cm.L, Rq.L, Tp.L, Bat.L, Ty.L] <;> rfl) (by rfl) (by first | rfl | assumption | exact Rs.oneC (by first | assumption | exact SH.rsR H (by (repeat first | exact At.here | apply At.there); done) | exact SH.rsO H (by (repeat first | exact At.here | apply At.there); done) | exact (Rs.nil : Rs Non _ _ _)) | (simp only [List.all_cons, List.all_nil, Bool.and_true, Bool.and_eq_true, Row.cells, Cm.L, Rq.L, Tp.L, Bat.L, Ty.L]; (repeat' constructor) <;> first | rfl | assumption | exact Rs.oneC (by first | assumption | exact SH.rsR H (by (repeat first | exact At.here | apply At.there); done) | exact SH.rsO H (by (repeat first | exact At.here | apply At.there); done) | exact (Rs.nil : Rs Non _ _ _)))) (by (repeat first | exact At.here | apply At.there); done) (by first | (simp; done) | decide | (show _ ≤ _; decide)) ?_
    clear H
    intro w3_7 H
    try dsimp only [replC, List.cons_append, List.nil_append, List.append_nil, agg, cellsL, Value.cells, List.toList_toArray, List.set_cons_zero, List.set_cons_succ, spliceL, List.take_succ_cons, List.take_zero, List.drop_succ_cons, List.drop_zero, List.length_cons, List.length_nil, Nat.reduceAdd, Row.cells, Cm.L, Rq.L, Tp.L, Bat.L, Ty.L] at H
    refine LW.nil ?_
    refine thenE_norm ?_
    refine cut (K := K4) [0, 4, 6] (fun σ => ?_)
    simp only [setL, keepE, upd_get, ev, Nat.reduceEqDiff, ↓reduceIte]
    refine h4 _ _ ?_; clear h4; try clear K4
    refine CW.seq (fun K5 h5 => ?_)
    refine CW.seq (fun K6 h6 => ?_)
    refine CW.region ?_
    refine r_move rfl ?_
    refine r_loadA rfl Try.isAgg107 Try.sizeOf107 rfl (by first | exact SH.cells H (by (repeat first | exact At.here | apply At.there); done)) (by rfl) ?_
    refine r_call rfl Try.call65 (by simp only [List.map_cons, List.map_nil, List.map_toArray, List.toList_toArray, upd_get, ev, Nat.reduceEqDiff, ↓reduceIte] <;> rfl) (chosen_c (F := Non) (fs := []) ⟨0, ⟨false, 0, ⟨0, 0⟩, 0, .slice none 0 0⟩, .slice none 0 0⟩ _ (SH.propI H (i := 0) rfl) ⟨hn0, hn1⟩ Rs.nil) ?_
    rintro _ w4_2 ⟨rfl, X⟩
    refine ⟨_, rfl, ?_⟩
    replace H := SH.same H X
    clear X
    refine r_not rfl rfl ?_
    refine LW.nil ?_
    refine thenE_norm (h6 _ _ ?_); clear h6; try clear K6
    refine CW.condT rfl (by simp; omega) ?_
    refine CW.seq (fun K7 h7 => ?_)
    refine CW.region ?_
    refine r_buildQ rfl Try.underlying27 Try.zeroValue27 rfl (pl := [(0, 1), (1, 1), (2, 2), (4, 1), (5, 1)]) (by intro w; simp [go_sem]) (qs := []) (cs := [.bool false, .int .i64 0, .int .i64 0, .int .i64 0, .int .i64 0, .slice none 0 0]) trivial rfl ?_
    refine s_storeA H Try.sizeOf27 rfl (by simp only [upd_get, ev, Nat.reduceEqDiff, ↓reduceIte] <;> rfl) (by simp only [cellsL, agg, List.toList_toArray, Row.cells, Cm.L, Rq.L, Tp.L, Bat.L, Ty.L] <;> rfl) (by rfl) (by first | rfl | assumption | exact Rs.oneC (by first | assumption | exact SH.rsR H (by (repeat first | exact At.here | apply At.there); done) | exact SH.rsO H (by (repeat first | exact At.here | apply At.there); done) | exact (Rs.nil : Rs Non _ _ _)) | (simp only [List.all_cons, List.all_nil, Bool.and_true, Bool.and_eq_true, Row.cells, Cm.L, Rq.L, Tp.L, Bat.L, Ty.L]; (repeat' constructor) <;> first | rfl | assumption | exact Rs.oneC (by first | assumption | exact SH.rsR H (by (repeat first | exact At.here | apply At.there); done) | exact SH.rsO H (by (repeat first | exact At.here | apply At.there); done) | exact (Rs.nil : Rs Non _ _ _)))) (by (repeat first | exact At.here | apply At.there); done) (by first | (simp; done) | decide | (show _ ≤ _; decide)) ?_
    clear H
    intro w5_1 H
    try dsimp only [replC, List.cons_append, List.nil_append, List.append_nil, agg, cellsL, Value.cells, List.toList_toArray, List.set_cons_zero, List.set_cons_succ, spliceL, List.take_succ_cons, List.take_zero, List.drop_succ_cons, List.drop_zero, List.length_cons, List.length_nil, Nat.reduceAdd, Row.cells, Cm.L, Rq.L, Tp.L, Bat.L, Ty.L] at H
    refine r_assign rfl ?_
    refine LW.nil ?_
    refine thenE_norm (h7 _ _ ?_); clear h7; try clear K7
    refine CW.ret (thenE_ret (retC2 Try.results24 (by simp only [upd_get, ev, Nat.reduceEqDiff, ↓reduceIte] <;> rfl) (by simp only [upd_get, ev, Nat.reduceEqDiff, ↓reduceIte] <;> rfl) Try.isAgg27 Try.sizeOf27 (by exact SH.cells H (by (repeat first | exact At.here | apply At.there); done)) (by rfl) ?_))
    have hout : outT s1 (lookM (msT l) sl) = zeroTm := by rw [outT, hz]; rfl
    rw [hout, hz]
    exact ⟨.slice none 0 0, none, rfl, SH.give (H.addO (α := Rq) 32) (by repeat first | exact List.Sublist.refl _ | exact List.nil_sublist _ | apply List.Sublist.cons_cons | apply List.Sublist.cons) ⟨trivial, trivial⟩⟩
  · obtain ⟨y1, ⟨y2, y3, ⟨y4, y5⟩, y6, y7⟩, y8⟩ := y
    obtain ⟨l1, t, l2, e1, e2, e3, hlm, e5, e6⟩ := look_at hlk
    obtain ⟨tk, tx, tm, tq, tf⟩ := t
    dsimp only at e2 e3 hlm
    subst tk
    subst tx
    have htm : (⟨sl, ⟨y1, ⟨y2, y3, ⟨y4, y5⟩, y6, y7⟩, y8⟩, tm, tq, tf⟩ : TG) ∈ l := by rw [e1]; simp
    obtain ⟨t1, t2, t3, t4, t5⟩ := h2 _ htm
    dsimp only at t1 t2 t3 t4 t5
    subst t2 t3 t5
    have hoy7 : oneC y7 = true := Rs.oneC (HrA.rf (SH.propI H (i := 2) rfl) htm).2
    have hoy8 : oneC y8 = true := Rs.oneC (HrA.rf (SH.propI H (i := 2) rfl) htm).1
    have hl3 := mayBat_len (hok.all _ (msT_mem htm)).2.may
    dsimp only at hl3
    refine CW.region ?_
    refine r_move rfl ?_
    refine r_nilCheck rfl rfl ?_
    refine r_fieldAddrO rfl Try.underlying104 rfl Try.sizeOf102 (by decide) (show _ = 2 from rfl) rfl ?_
    refine r_load rfl Try.isAgg102 rfl (by first | exact SH.cellB H (by (repeat first | exact At.here | apply At.there); done) (by rfl) | exact SH.cellI H (by (repeat first | exact At.here | apply At.there); done) (by rfl) | assumption) ?_
    refine r_move rfl ?_
    refine r_lookup1S rfl Try.underlying102 Try.underlying3 Try.zeroValue107 rfl rfl (SH.propI H (i := 1) rfl) hlk ?_
    refine s_alloc (cs := [.int .i64 0, .bool false, .int .i64 0, .int .i64 0, .int .i64 0, .int .i64 0, .slice none 0 0, .slice none 0 0]) H rfl Try.zeroValue107 rfl ?_
    clear H
    intro b3_6 w3_6 H
    try dsimp only [replC, List.cons_append, List.nil_append, List.append_nil, agg, cellsL, Value.cells, List.toList_toArray, List.set_cons_zero, List.set_cons_succ, spliceL, List.take_succ_cons, List.take_zero, List.drop_succ_cons, List.drop_zero, List.length_cons, List.length_nil, Nat.reduceAdd, Row.cells, Cm.L, Rq.L, Tp.L, Bat.L, Ty.L] at H
    refine s_storeA H Try.sizeOf107 rfl (by simp only [upd_get, ev, Nat.reduceEqDiff, ↓reduceIte] <;> rfl) (by simp only [cellsL, agg, List.toList_toArray, Row.cells, Cm.L, Rq.L, Tp.L, Bat.L, Ty.L] <;> rfl) (by rfl) (by first | rfl | assumption | exact Rs.oneC (by first | assumption | exact SH.rsR H (by (repeat first | exact At.here | apply At.there); done) | exact SH.rsO H (by (repeat first | exact At.here | apply At.there); done) | exact (Rs.nil : Rs Non _ _ _)) | (simp only [List.all_cons, List.all_nil, Bool.and_true, Bool.and_eq_true, Row.cells, Cm.L, Rq.L, Tp.L, Bat.L, Ty.L]; (repeat' constructor) <;> first | rfl | assumption | exact Rs.oneC (by first | assumption | exact SH.rsR H (by (repeat first | exact At.here | apply At.there); done) | exact SH.rsO H (by (repeat first | exact At.here | apply At.there); done) | exact (Rs.nil : Rs Non _ _ _)))) (by (repeat first | exact At.here | apply At.there); done) (by first | (simp; done) | decide | (show _ ≤ _; decide)) ?_
    clear H
    intro w3_7 H
    try dsimp only [replC, List.cons_append, List.nil_append, List.append_nil, agg, cellsL, Value.cells, List.toList_toArray, List.set_cons_zero, List.set_cons_succ, spliceL, List.take_succ_cons, List.take_zero, List.drop_succ_cons, List.drop_zero, List.length_cons, List.length_nil, Nat.reduceAdd, Row.cells, Cm.L, Rq.L, Tp.L, Bat.L, Ty.L] at H
    refine LW.nil ?_
    refine thenE_norm ?_
    refine cut (K := K4) [0, 4, 6] (fun σ => ?_)
    simp only [setL, keepE, upd_get, ev, Nat.reduceEqDiff, ↓reduceIte]
    refine h4 _ _ ?_; clear h4; try clear K4
    refine CW.seq (fun K8 h8 => ?_)
    refine CW.seq (fun K9 h9 => ?_)
    refine CW.region ?_
    refine r_move rfl ?_
    refine r_loadA rfl Try.isAgg107 Try.sizeOf107 rfl (by first | exact SH.cells H (by (repeat first | exact At.here | apply At.there); done)) (by rfl) ?_
    refine r_call rfl Try.call65 (by simp only [List.map_cons, List.map_nil, List.map_toArray, List.toList_toArray, upd_get, ev, Nat.reduceEqDiff, ↓reduceIte] <;> rfl) (chosen_c ⟨_, ⟨_, _, ⟨_, _⟩, _, _⟩, _⟩ _ (SH.propI H (i := 0) rfl) ⟨hn0, hn1⟩ (HrA.rf (SH.propI H (i := 2) rfl) htm).1) ?_
    rintro _ w4_2 ⟨rfl, X⟩
    refine ⟨_, rfl, ?_⟩
    replace H := SH.same H X
    clear X
    refine r_not rfl rfl ?_
    refine LW.nil ?_
    refine thenE_norm (h9 _ _ ?_); clear h9; try clear K9
    refine CW.cond rfl (fun hc2 => ?_) (fun hc2 => ?_)
    · try simp only [decide_eq_true_eq, decide_eq_false_iff_not, Bool.and_eq_true, Bool.or_eq_true, Bool.and_eq_false_iff, Bool.or_eq_false_iff, Bool.not_eq_true', Bool.not_eq_false', beq_iff_eq, bne_iff_ne, ne_eq, Decidable.not_not] at hc2
      have hz : chosenT s1 (lookM (msT l) sl) = false := by rw [hlm]; exact decide_eq_false hc2
      refine CW.seq (fun K10 h10 => ?_)
      refine CW.region ?_
      refine r_buildQ rfl Try.underlying27 Try.zeroValue27 rfl (pl := [(0, 1), (1, 1), (2, 2), (4, 1), (5, 1)]) (by intro w; simp [go_sem]) (qs := []) (cs := [.bool false, .int .i64 0, .int .i64 0, .int .i64 0, .int .i64 0, .slice none 0 0]) trivial rfl ?_
      refine s_storeA H Try.sizeOf27 rfl (by simp only [upd_get, ev, Nat.reduceEqDiff, ↓reduceIte] <;> rfl) (by simp only [cellsL, agg, List.toList_toArray, Row.cells, Cm.L, Rq.L, Tp.L, Bat.L, Ty.L] <;> rfl) (by rfl) (by first | rfl | assumption | exact Rs.oneC (by first | assumption | exact SH.rsR H (by (repeat first | exact At.here | apply At.there); done) | exact SH.rsO H (by (repeat first | exact At.here | apply At.there); done) | exact (Rs.nil : Rs Non _ _ _)) | (simp only [List.all_cons, List.all_nil, Bool.and_true, Bool.and_eq_true, Row.cells, Cm.L, Rq.L, Tp.L, Bat.L, Ty.L]; (repeat' constructor) <;> first | rfl | assumption | exact Rs.oneC (by first | assumption | exact SH.rsR H (by (repeat first | exact At.here | apply At.there); done) | exact SH.rsO H (by (repeat first | exact At.here | apply At.there); done) | exact (Rs.nil : Rs Non _ _ _)))) (by (repeat first | exact At.here | apply At.there); done) (by first | (simp; done) | decide | (show _ ≤ _; decide)) ?_
      clear H
      intro w5_1 H
      try dsimp only [replC, List.cons_append, List.nil_append, List.append_nil, agg, cellsL, Value.cells, List.toList_toArray, List.set_cons_zero, List.set_cons_succ, spliceL, List.take_succ_cons, List.take_zero, List.drop_succ_cons, List.drop_zero, List.length_cons, List.length_nil, Nat.reduceAdd, Row.cells, Cm.L, Rq.L, Tp.L, Bat.L, Ty.L] at H
      refine r_assign rfl ?_
      refine LW.nil ?_
      refine thenE_norm (h10 _ _ ?_); clear h10; try clear K10
      refine CW.ret (thenE_ret (retC2 Try.results24 (by simp only [upd_get, ev, Nat.reduceEqDiff, ↓reduceIte] <;> rfl) (by simp only [upd_get, ev, Nat.reduceEqDiff, ↓reduceIte] <;> rfl) Try.isAgg27 Try.sizeOf27 (by exact SH.cells H (by (repeat first | exact At.here | apply At.there); done)) (by rfl) ?_))
      have hout : outT s1 (lookM (msT l) sl) = zeroTm := by rw [outT, hz]; rfl
      rw [hout, hz]
      exact ⟨.slice none 0 0, none, rfl, SH.give (H.addO (α := Rq) 32) (by repeat first | exact List.Sublist.refl _ | exact List.nil_sublist _ | apply List.Sublist.cons_cons | apply List.Sublist.cons) ⟨trivial, trivial⟩⟩
    · try simp only [decide_eq_true_eq, decide_eq_false_iff_not, Bool.and_eq_true, Bool.or_eq_true, Bool.and_eq_false_iff, Bool.or_eq_false_iff, Bool.not_eq_true', Bool.not_eq_false', beq_iff_eq, bne_iff_ne, ne_eq, Decidable.not_not] at hc2
      refine CW.skip ?_
      refine thenE_norm (h8 _ _ ?_); clear h8; try clear K8
      refine CW.seq (fun K11 h11 => ?_)
      refine CW.region ?_
      refine r_fieldAddrO rfl Try.underlying107 rfl Try.sizeOf27 (by decide) (show _ = 1 from rfl) rfl ?_
      refine r_loadA rfl Try.isAgg27 Try.sizeOf27 rfl (by first | exact SH.partOf (n := 6) H (by (repeat first | exact At.here | apply At.there); done) (by simp only [Row.cells, List.drop_succ_cons, List.drop_zero, List.take_succ_cons, List.take_zero, Cm.L, Rq.L, Tp.L, Bat.L, Ty.L] <;> rfl) | exact SH.cells H (by (repeat first | exact At.here | apply At.there); done)) (by rfl) ?_
      refine s_alloc (cs := [.bool false, .int .i64 0, .int .i64 0, .int .i64 0, .int .i64 0, .slice none 0 0]) H rfl Try.zeroValue27 rfl ?_
      clear H
      intro b6_2 w6_2 H
      try dsimp only [replC, List.cons_append, List.nil_append, List.append_nil, agg, cellsL, Value.cells, List.toList_toArray, List.set_cons_zero, List.set_cons_succ, spliceL, List.take_succ_cons, List.take_zero, List.drop_succ_cons, List.drop_zero, List.length_cons, List.length_nil, Nat.reduceAdd, Row.cells, Cm.L, Rq.L, Tp.L, Bat.L, Ty.L] at H
      refine s_storeA H Try.sizeOf27 rfl (by simp only [upd_get, ev, Nat.reduceEqDiff, ↓reduceIte] <;> rfl) (by simp only [cellsL, agg, List.toList_toArray, Row.cells, Cm.L, Rq.L, Tp.L, Bat.L, Ty.L] <;> rfl) (by rfl) (by first | rfl | assumption | exact Rs.oneC (by first | assumption | exact SH.rsR H (by (repeat first | exact At.here | apply At.there); done) | exact SH.rsO H (by (repeat first | exact At.here | apply At.there); done) | exact (Rs.nil : Rs Non _ _ _)) | (simp only [List.all_cons, List.all_nil, Bool.and_true, Bool.and_eq_true, Row.cells, Cm.L, Rq.L, Tp.L, Bat.L, Ty.L]; (repeat' constructor) <;> first | rfl | assumption | exact Rs.oneC (by first | assumption | exact SH.rsR H (by (repeat first | exact At.here | apply At.there); done) | exact SH.rsO H (by (repeat first | exact At.here | apply At.there); done) | exact (Rs.nil : Rs Non _ _ _)))) (by (repeat first | exact At.here | apply At.there); done) (by first | (simp; done) | decide | (show _ ≤ _; decide)) ?_
      clear H
      intro w6_3 H
      try dsimp only [replC, List.cons_append, List.nil_append, List.append_nil, agg, cellsL, Value.cells, List.toList_toArray, List.set_cons_zero, List.set_cons_succ, spliceL, List.take_succ_cons, List.take_zero, List.drop_succ_cons, List.drop_zero, List.length_cons, List.length_nil, Nat.reduceAdd, Row.cells, Cm.L, Rq.L, Tp.L, Bat.L, Ty.L] at H
      refine LW.nil ?_
      refine thenE_norm ?_
      refine cut (K := K11) [4, 7] (fun σ => ?_)
      simp only [setL, keepE, upd_get, ev, Nat.reduceEqDiff, ↓reduceIte]
      refine h11 _ _ ?_; clear h11; try clear K11
      refine CW.seq (fun K12 h12 => ?_)
      refine CW.region ?_
      refine r_fieldAddrO rfl Try.underlying27 rfl Try.sizeOf25 (by decide) (show _ = 5 from rfl) rfl ?_
      refine r_load rfl Try.isAgg25 rfl (by first | exact SH.cellB H (by (repeat first | exact At.here | apply At.there); done) (by rfl) | assumption) ?_
      refine r_call rfl Try.call66 (by simp only [List.map_cons, List.map_nil, List.map_toArray, List.toList_toArray, upd_get, ev, Nat.reduceEqDiff, ↓reduceIte] <;> rfl) (CloneQL_c _ (HrA.rf (SH.propI H (i := 2) rfl) htm).2 (by dsimp only; omega)) ?_
      rintro _ w7_2 ⟨v7_2, g7_2, rfl, K⟩
      refine ⟨_, rfl, ?_⟩
      replace H := SH.call H K
      clear K
      try dsimp only [replC, List.cons_append, List.nil_append, List.append_nil] at H
      refine r_fieldAddrO rfl Try.underlying27 rfl Try.sizeOf25 (by decide) (show _ = 5 from rfl) rfl ?_
      refine s_store H Try.sizeOf25 rfl (by simp only [upd_get, ev, Nat.reduceEqDiff, ↓reduceIte] <;> rfl) (by first | rfl | assumption | exact Rs.oneC (by first | assumption | exact SH.rsR H (by (repeat first | exact At.here | apply At.there); done) | exact SH.rsO H (by (repeat first | exact At.here | apply At.there); done) | exact (Rs.nil : Rs Non _ _ _)) | (simp only [List.all_cons, List.all_nil, Bool.and_true, Bool.and_eq_true, Row.cells, Cm.L, Rq.L, Tp.L, Bat.L, Ty.L]; (repeat' constructor) <;> first | rfl | assumption | exact Rs.oneC (by first | assumption | exact SH.rsR H (by (repeat first | exact At.here | apply At.there); done) | exact SH.rsO H (by (repeat first | exact At.here | apply At.there); done) | exact (Rs.nil : Rs Non _ _ _)))) (by (repeat first | exact At.here | apply At.there); done) (by first | (simp; done) | decide | omega) ?_
      clear H
      intro w7_4 H
      try dsimp only [replC, List.cons_append, List.nil_append, List.append_nil, agg, cellsL, Value.cells, List.toList_toArray, List.set_cons_zero, List.set_cons_succ, spliceL, List.take_succ_cons, List.take_zero, List.drop_succ_cons, List.drop_zero, List.length_cons, List.length_nil, Nat.reduceAdd, Row.cells, Cm.L, Rq.L, Tp.L, Bat.L, Ty.L] at H
      refine LW.nil ?_
      refine thenE_norm (h12 _ _ ?_); clear h12; try clear K12
      refine CW.seq (fun K13 h13 => ?_)
      refine CW.region ?_
      refine r_loadA rfl Try.isAgg27 Try.sizeOf27 rfl (by first | exact SH.cells H (by (repeat first | exact At.here | apply At.there); done)) (by rfl) ?_
      refine s_storeA H Try.sizeOf27 rfl (by simp only [upd_get, ev, Nat.reduceEqDiff, ↓reduceIte] <;> rfl) (by simp only [cellsL, agg, List.toList_toArray, Row.cells, Cm.L, Rq.L, Tp.L, Bat.L, Ty.L] <;> rfl) (by rfl) (by first | rfl | assumption | exact Rs.oneC (by first | assumption | exact SH.rsR H (by (repeat first | exact At.here | apply At.there); done) | exact SH.rsO H (by (repeat first | exact At.here | apply At.there); done) | exact (Rs.nil : Rs Non _ _ _)) | (simp only [List.all_cons, List.all_nil, Bool.and_true, Bool.and_eq_true, Row.cells, Cm.L, Rq.L, Tp.L, Bat.L, Ty.L]; (repeat' constructor) <;> first | rfl | assumption | exact Rs.oneC (by first | assumption | exact SH.rsR H (by (repeat first | exact At.here | apply At.there); done) | exact SH.rsO H (by (repeat first | exact At.here | apply At.there); done) | exact (Rs.nil : Rs Non _ _ _)))) (by (repeat first | exact At.here | apply At.there); done) (by first | (simp; done) | decide | (show _ ≤ _; decide)) ?_
      clear H
      intro w8_1 H
      try dsimp only [replC, List.cons_append, List.nil_append, List.append_nil, agg, cellsL, Value.cells, List.toList_toArray, List.set_cons_zero, List.set_cons_succ, spliceL, List.take_succ_cons, List.take_zero, List.drop_succ_cons, List.drop_zero, List.length_cons, List.length_nil, Nat.reduceAdd, Row.cells, Cm.L, Rq.L, Tp.L, Bat.L, Ty.L] at H
      refine r_assign rfl ?_
      refine LW.nil ?_
      refine thenE_norm ?_
      refine cut (K := K13) [4, 5] (fun σ => ?_)
      simp only [setL, keepE, upd_get, ev, Nat.reduceEqDiff, ↓reduceIte]
      refine h13 _ _ ?_; clear h13; try clear K13
      refine CW.ret (retC2 Try.results24 (by simp only [upd_get, ev, Nat.reduceEqDiff, ↓reduceIte] <;> rfl) (by simp only [upd_get, ev, Nat.reduceEqDiff, ↓reduceIte] <;> rfl) Try.isAgg27 Try.sizeOf27 (by exact SH.cells H (by (repeat first | exact At.here | apply At.there); done)) (by rfl) ?_)
      have hz : chosenT s1 (lookM (msT l) sl) = true := by rw [hlm]; exact decide_eq_true hc2
      have hout : outT s1 (lookM (msT l) sl) = tm := by rw [outT, hz, if_pos rfl, hlm]; rfl
      rw [hout, hz, ← t4]
      exact ⟨v7_2, g7_2, rfl, SH.give H (by repeat first | exact List.Sublist.refl _ | exact List.nil_sublist _ | apply List.Sublist.cons_cons | apply List.Sublist.cons) ⟨trivial, trivial⟩⟩
theorem ChosenZ_c (sl : Int) (w : World) : Calls Try.prog 24 #[.pointer none, .int .i64 sl] w fun e w' => e = .returned (.tuple #[agg (⟨false, 0, ⟨0, 0⟩, 0, .slice none 0 0⟩ : Bat), .bool false]) ∧ Ext0 w w' := by
  have H := SH.start (U := Non) (G := Any) w
  refine calls_of_CW Try.func24 rfl Try.ntmps24 (Nat.le_of_ble_eq_true rfl) ?_
  simp only [argE, argFrom, Nat.reduceAdd]
  refine CW.seq (fun K1 h1 => ?_)
  refine CW.region ?_
  refine s_alloc (cs := [.bool false, .int .i64 0, .int .i64 0, .int .i64 0, .int .i64 0, .slice none 0 0]) H rfl Try.zeroValue27 rfl ?_
  clear H
  intro b0_0 w0_0 H
  try dsimp only [replC, List.cons_append, List.nil_append, List.append_nil, agg, cellsL, Value.cells, List.toList_toArray, List.set_cons_zero, List.set_cons_succ, spliceL, List.take_succ_cons, List.take_zero, List.drop_succ_cons, List.drop_zero, List.length_cons, List.length_nil, Nat.reduceAdd, Row.cells, Cm.L, Rq.L, Tp.L, Bat.L, Ty.L] at H
  refine r_assign rfl ?_
  refine LW.nil ?_
  refine thenE_norm (h1 _ _ ?_); clear h1; try clear K1
  refine CW.seq (fun K2 h2 => ?_)
  refine CW.seq (fun K3 h3 => ?_)
  refine CW.region ?_
  refine r_move rfl ?_
  refine r_eqlP rfl Try.underlying42 rfl rfl ?_
  refine LW.nil ?_
  refine thenE_norm (h3 _ _ ?_); clear h3; try clear K3
  refine CW.condT rfl (by first | rfl | (simp only [decide_eq_true_eq, decide_eq_false_iff_not, Bool.and_eq_true, Bool.or_eq_true, Bool.and_eq_false_iff, Bool.or_eq_false_iff, Bool.not_eq_true', Bool.not_eq_false', beq_iff_eq, bne_iff_ne]; omega) | simp_all) ?_
  refine CW.seq (fun K4 h4 => ?_)
  refine CW.region ?_
  refine r_buildQ rfl Try.underlying27 Try.zeroValue27 rfl (pl := [(0, 1), (1, 1), (2, 2), (4, 1), (5, 1)]) (by intro w; simp [go_sem]) (qs := []) (cs := [.bool false, .int .i64 0, .int .i64 0, .int .i64 0, .int .i64 0, .slice none 0 0]) trivial rfl ?_
  refine s_storeA H Try.sizeOf27 rfl (by simp only [upd_get, ev, Nat.reduceEqDiff, ↓reduceIte] <;> rfl) (by simp only [cellsL, agg, List.toList_toArray, Row.cells, Cm.L, Rq.L, Tp.L, Bat.L, Ty.L] <;> rfl) (by rfl) (by first | rfl | assumption | exact Rs.oneC (by first | assumption | exact SH.rsR H (by (repeat first | exact At.here | apply At.there); done) | exact SH.rsO H (by (repeat first | exact At.here | apply At.there); done) | exact (Rs.nil : Rs Non _ _ _)) | (simp only [List.all_cons, List.all_nil, Bool.and_true, Bool.and_eq_true, Row.cells, Cm.L, Rq.L, Tp.L, Bat.L, Ty.L]; (repeat' constructor) <;> first | rfl | assumption | exact Rs.oneC (by first | assumption | exact SH.rsR H (by (repeat first | exact At.here | apply At.there); done) | exact SH.rsO H (by (repeat first | exact At.here | apply At.there); done) | exact (Rs.nil : Rs Non _ _ _)))) (by (repeat first | exact At.here | apply At.there); done) (by first | (simp; done) | decide | (show _ ≤ _; decide)) ?_
  clear H
  intro w2_1 H
  try dsimp only [replC, List.cons_append, List.nil_append, List.append_nil, agg, cellsL, Value.cells, List.toList_toArray, List.set_cons_zero, List.set_cons_succ, spliceL, List.take_succ_cons, List.take_zero, List.drop_succ_cons, List.drop_zero, List.length_cons, List.length_nil, Nat.reduceAdd, Row.cells, Cm.L, Rq.L, Tp.L, Bat.L, Ty.L] at H
  refine r_assign rfl ?_
  refine LW.nil ?_
  refine thenE_norm (h4 _ _ ?_); clear h4; try clear K4
  refine CW.ret (thenE_ret (retC2 Try.results24 (by simp only [upd_get, ev, Nat.reduceEqDiff, ↓reduceIte] <;> rfl) (by simp only [upd_get, ev, Nat.reduceEqDiff, ↓reduceIte] <;> rfl) Try.isAgg27 Try.sizeOf27 (by exact SH.cells H (by (repeat first | exact At.here | apply At.there); done)) (by rfl) ?_))
  exact ⟨rfl, H.ext⟩
set_option maxHeartbeats 8000000 in
theorem Heard_c {p : Nat} {s : LnS} {FN : Nat → Prop} (sl : Int) (w : World) (hN : LrnA p s FN w) :
    Calls Try.prog 26 #[.pointer (some ⟨p, 0, none⟩), .int .i64 sl] w fun e w' => ∃ (v' : Value) (g : Option Nat), e = .returned (.tuple #[.int .i64 ((lookM s.heard sl).getD zeroTm).ballot, v']) ∧
      SH Non Non w w' [.O 3 v' ((lookM s.heard sl).getD zeroTm).frm g] := by
  obtain ⟨hok, bm, l, FH, h1, h2, hA⟩ := hN
  have H := SH.look hA
  simp only [List.map_cons, List.map_nil, toImm] at H
  obtain ⟨s1, s2, s3⟩ := s
  dsimp only at H h1 ⊢
  subst h1
  have hn0 : 1 ≤ s1 := hok.n0
  have hn1 : s1 ≤ 7 := hok.n1
  refine calls_of_CW Try.func26 rfl Try.ntmps26 (Nat.le_of_ble_eq_true rfl) ?_
  simp only [argE, argFrom, Nat.reduceAdd]
  refine CW.seq (fun K1 h1 => ?_)
  refine CW.region ?_
  refine r_assign rfl ?_
  refine r_assign rfl ?_
  refine LW.nil ?_
  refine thenE_norm (h1 _ _ ?_); clear h1; try clear K1
  refine CW.seq (fun K2 h2 => ?_)
  refine CW.seq (fun K3 h3 => ?_)
  refine CW.region ?_
  refine r_move rfl ?_
  refine r_eqlP rfl Try.underlying42 rfl rfl ?_
  refine LW.nil ?_
  refine thenE_norm (h3 _ _ ?_); clear h3; try clear K3
  refine CW.condF rfl (by first | rfl | (simp only [decide_eq_true_eq, decide_eq_false_iff_not, Bool.and_eq_true, Bool.or_eq_true, Bool.and_eq_false_iff, Bool.or_eq_false_iff, Bool.not_eq_true', Bool.not_eq_false', beq_iff_eq, bne_iff_ne]; omega) | simp_all) ?_
  refine CW.skip ?_
  refine thenE_norm (h2 _ _ ?_); clear h2; try clear K2
  refine CW.seq (fun K4 h4 => ?_)
  rcases hlk : lookM (kvT l) sl with _ | y
  · have hlm := look_kv hlk
    refine CW.region ?_
    refine r_move rfl ?_
    refine r_nilCheck rfl rfl ?_
    refine r_fieldAddrO rfl Try.underlying104 rfl Try.sizeOf102 (by decide) (show _ = 2 from rfl) rfl ?_
    refine r_load rfl Try.isAgg102 rfl (by first | exact SH.cellB H (by (repeat first | exact At.here | apply At.there); done) (by rfl) | exact SH.cellI H (by (repeat first | exact At.here | apply At.there); done) (by rfl) | assumption) ?_
    refine r_move rfl ?_
    refine r_lookup1N rfl Try.underlying102 Try.underlying3 Try.zeroValue107 rfl rfl (SH.propI H (i := 1) rfl) hlk ?_
    refine s_alloc (cs := [.int .i64 0, .bool false, .int .i64 0, .int .i64 0, .int .i64 0, .int .i64 0, .slice none 0 0, .slice none 0 0]) H rfl Try.zeroValue107 rfl ?_
    clear H
    intro b3_6 w3_6 H
    try dsimp only [replC, List.cons_append, List.nil_append, List.append_nil, agg, cellsL, Value.cells, List.toList_toArray, List.set_cons_zero, List.set_cons_succ, spliceL, List.take_succ_cons, List.take_zero, List.drop_succ_cons, List.drop_zero, List.length_cons, List.length_nil, Nat.reduceAdd, Row.cells, Cm.L, Rq.L, Tp.L, Bat.L, Ty.L] at H
    refine s_storeA H Try.sizeOf107 rfl (by simp only [upd_get, ev, Nat.reduceEqDiff, ↓reduceIte] <;> rfl) (by simp only [cellsL, agg, List.toList_toArray, Row.cells, Cm.L, Rq.L, Tp.L, Bat.L, Ty.L] <;> rfl) (by rfl) (by first | rfl | assumption | exact Rs.oneC (by first | assumption | exact SH.rsR H (by (repeat first | exact At.here | apply At.there); done) | exact SH.rsO H (by (repeat first | exact At.here | apply At.there); done) | exact (Rs.nil : Rs Non _ _ _)) | (simp only [List.all_cons, List.all_nil, Bool.and_true, Bool.and_eq_true, Row.cells, Cm.L, Rq.L, Tp.L, Bat.L, Ty.L]; (repeat' constructor) <;> first | rfl | assumption | exact Rs.oneC (by first | assumption | exact SH.rsR H (by (repeat first | exact At.here | apply At.there); done) | exact SH.rsO H (by (repeat first | exact At.here | apply At.there); done) | exact (Rs.nil : Rs Non _ _ _)))) (by (repeat first | exact At.here | apply At.there); done) (by first | (simp; done) | decide | (show _ ≤ _; decide)) ?_
    clear H
    intro w3_7 H
    try dsimp only [replC, List.cons_append, List.nil_append, List.append_nil, agg, cellsL, Value.cells, List.toList_toArray, List.set_cons_zero, List.set_cons_succ, spliceL, List.take_succ_cons, List.take_zero, List.drop_succ_cons, List.drop_zero, List.length_cons, List.length_nil, Nat.reduceAdd, Row.cells, Cm.L, Rq.L, Tp.L, Bat.L, Ty.L] at H
    refine LW.nil ?_
    refine thenE_norm ?_
    refine cut (K := K4) [6] (fun σ => ?_)
    simp only [setL, keepE, upd_get, ev, Nat.reduceEqDiff, ↓reduceIte]
    refine h4 _ _ ?_; clear h4; try clear K4
    refine CW.seq (fun K5 h5 => ?_)
    refine CW.drawP [3] [] H (by dsimp only [pickC, nthC] <;> rfl) (by repeat first | exact List.Sublist.refl _ | exact List.nil_sublist _ | apply List.Sublist.cons_cons | apply List.Sublist.cons) (by kernel_rfl) rfl ?_
    clear H
    intro w4d H
    refine DL.take (i := 0) [] rfl (by kernel_rfl) (by kernel_rfl) (by kernel_rfl) (by kernel_rfl) rfl rfl (fun u H => x_fieldAddrO Try.underlying107 rfl Try.sizeOf3 (by decide) (show _ = 0 from rfl) rfl) (SH.sub H (by repeat first | exact List.Sublist.refl _ | exact List.nil_sublist _ | apply List.Sublist.cons_cons | apply List.Sublist.cons)) ?_
    refine DL.take (i := 1) [] rfl (by kernel_rfl) (by kernel_rfl) (by kernel_rfl) (by kernel_rfl) rfl rfl (fun u H => x_load Try.isAgg3 rfl (by first | exact SH.cellB H (by (repeat first | exact At.here | apply At.there); done) (by rfl) | assumption)) (SH.sub H (by repeat first | exact List.Sublist.refl _ | exact List.nil_sublist _ | apply List.Sublist.cons_cons | apply List.Sublist.cons)) ?_
    refine DL.take (i := 2) [] rfl (by kernel_rfl) (by kernel_rfl) (by kernel_rfl) (by kernel_rfl) rfl rfl (fun u H => x_fieldAddrO Try.underlying107 rfl Try.sizeOf41 (by decide) (show _ = 7 from rfl) rfl) (SH.sub H (by repeat first | exact List.Sublist.refl _ | exact List.nil_sublist _ | apply List.Sublist.cons_cons | apply List.Sublist.cons)) ?_
    refine DL.take (i := 3) [] rfl (by kernel_rfl) (by kernel_rfl) (by kernel_rfl) (by kernel_rfl) rfl rfl (fun u H => x_load Try.isAgg41 rfl (by first | exact SH.cellB H (by (repeat first | exact At.here | apply At.there); done) (by rfl) | assumption)) (SH.sub H (by repeat first | exact List.Sublist.refl _ | exact List.nil_sublist _ | apply List.Sublist.cons_cons | apply List.Sublist.cons)) ?_
    refine DL.one (i := 4) (by kernel_rfl) rfl rfl ?_
    refine r_call rfl Try.call70 (by simp only [List.map_cons, List.map_nil, List.map_toArray, List.toList_toArray, upd_get, ev, Nat.reduceEqDiff, ↓reduceIte] <;> rfl) (CloneI_c (F := Non) (xs := []) _ Rs.nil (by decide)) ?_
    rintro _ w4_4 ⟨v4_4, g4_4, rfl, K⟩
    refine ⟨_, rfl, ?_⟩
    replace H := SH.call H K
    clear K
    try dsimp only [replC, List.cons_append, List.nil_append, List.append_nil] at H
    refine LW.nil (thenE_norm ⟨fun _ => (SH.sub H (by repeat first | exact List.Sublist.refl _ | exact List.nil_sublist _ | apply List.Sublist.cons_cons | apply List.Sublist.cons)), ?_⟩)
    refine DL.take (i := 5) [] rfl (by kernel_rfl) (by kernel_rfl) (by kernel_rfl) (by kernel_rfl) rfl rfl (fun u H => x_assign ) (SH.sub H (by repeat first | exact List.Sublist.refl _ | exact List.nil_sublist _ | apply List.Sublist.cons_cons | apply List.Sublist.cons)) ?_
    refine DL.take (i := 6) [] rfl (by kernel_rfl) (by kernel_rfl) (by kernel_rfl) (by kernel_rfl) rfl rfl (fun u H => x_assign ) (SH.sub H (by repeat first | exact List.Sublist.refl _ | exact List.nil_sublist _ | apply List.Sublist.cons_cons | apply List.Sublist.cons)) ?_
    refine DL.done (by kernel_rfl) ?_
    refine thenE_norm ?_
    refine cut (K := K5) [4, 5] (fun σ => ?_)
    simp only [setL, keepE, upd_get, ev, Nat.reduceEqDiff, ↓reduceIte]
    refine h5 _ _ ?_; clear h5; try clear K5
    refine CW.ret (ret2 Try.results26 (by simp only [upd_get, ev, Nat.reduceEqDiff, ↓reduceIte]; rfl) (by simp only [upd_get, ev, Nat.reduceEqDiff, ↓reduceIte]; rfl) ?_)
    rw [hlm]
    exact ⟨v4_4, g4_4, rfl, SH.give H (by repeat first | exact List.Sublist.refl _ | exact List.nil_sublist _ | apply List.Sublist.cons_cons | apply List.Sublist.cons) ⟨trivial, trivial⟩⟩
  · obtain ⟨y1, ⟨y2, y3, ⟨y4, y5⟩, y6, y7⟩, y8⟩ := y
    obtain ⟨l1, t, l2, e1, e2, e3, hlm, e5, e6⟩ := look_at hlk
    obtain ⟨tk, tx, tm, tq, tf⟩ := t
    dsimp only at e2 e3 hlm
    subst tk
    subst tx
    have htm : (⟨sl, ⟨y1, ⟨y2, y3, ⟨y4, y5⟩, y6, y7⟩, y8⟩, tm, tq, tf⟩ : TG) ∈ l := by rw [e1]; simp
    obtain ⟨t1, t2, t3, t4, t5⟩ := h2 _ htm
    dsimp only at t1 t2 t3 t4 t5
    subst t1
    have hoy7 : oneC y7 = true := Rs.oneC (HrA.rf (SH.propI H (i := 2) rfl) htm).2
    have hoy8 : oneC y8 = true := Rs.oneC (HrA.rf (SH.propI H (i := 2) rfl) htm).1
    have hf7 := (hok.all _ (msT_mem htm)).2.len (by dsimp only; omega) hn1
    dsimp only at hf7
    refine CW.region ?_
    refine r_move rfl ?_
    refine r_nilCheck rfl rfl ?_
    refine r_fieldAddrO rfl Try.underlying104 rfl Try.sizeOf102 (by decide) (show _ = 2 from rfl) rfl ?_
    refine r_load rfl Try.isAgg102 rfl (by first | exact SH.cellB H (by (repeat first | exact At.here | apply At.there); done) (by rfl) | exact SH.cellI H (by (repeat first | exact At.here | apply At.there); done) (by rfl) | assumption) ?_
    refine r_move rfl ?_
    refine r_lookup1S rfl Try.underlying102 Try.underlying3 Try.zeroValue107 rfl rfl (SH.propI H (i := 1) rfl) hlk ?_
    refine s_alloc (cs := [.int .i64 0, .bool false, .int .i64 0, .int .i64 0, .int .i64 0, .int .i64 0, .slice none 0 0, .slice none 0 0]) H rfl Try.zeroValue107 rfl ?_
    clear H
    intro b3_6 w3_6 H
    try dsimp only [replC, List.cons_append, List.nil_append, List.append_nil, agg, cellsL, Value.cells, List.toList_toArray, List.set_cons_zero, List.set_cons_succ, spliceL, List.take_succ_cons, List.take_zero, List.drop_succ_cons, List.drop_zero, List.length_cons, List.length_nil, Nat.reduceAdd, Row.cells, Cm.L, Rq.L, Tp.L, Bat.L, Ty.L] at H
    refine s_storeA H Try.sizeOf107 rfl (by simp only [upd_get, ev, Nat.reduceEqDiff, ↓reduceIte] <;> rfl) (by simp only [cellsL, agg, List.toList_toArray, Row.cells, Cm.L, Rq.L, Tp.L, Bat.L, Ty.L] <;> rfl) (by rfl) (by first | rfl | assumption | exact Rs.oneC (by first | assumption | exact SH.rsR H (by (repeat first | exact At.here | apply At.there); done) | exact SH.rsO H (by (repeat first | exact At.here | apply At.there); done) | exact (Rs.nil : Rs Non _ _ _)) | (simp only [List.all_cons, List.all_nil, Bool.and_true, Bool.and_eq_true, Row.cells, Cm.L, Rq.L, Tp.L, Bat.L, Ty.L]; (repeat' constructor) <;> first | rfl | assumption | exact Rs.oneC (by first | assumption | exact SH.rsR H (by (repeat first | exact At.here | apply At.there); done) | exact SH.rsO H (by (repeat first | exact At.here | apply At.there); done) | exact (Rs.nil : Rs Non _ _ _)))) (by (repeat first | exact At.here | apply At.there); done) (by first | (simp; done) | decide | (show _ ≤ _; decide)) ?_
    clear H
    intro w3_7 H
    try dsimp only [replC, List.cons_append, List.nil_append, List.append_nil, agg, cellsL, Value.cells, List.toList_toArray, List.set_cons_zero, List.set_cons_succ, spliceL, List.take_succ_cons, List.take_zero, List.drop_succ_cons, List.drop_zero, List.length_cons, List.length_nil, Nat.reduceAdd, Row.cells, Cm.L, Rq.L, Tp.L, Bat.L, Ty.L] at H
    refine LW.nil ?_
    refine thenE_norm ?_
    refine cut (K := K4) [6] (fun σ => ?_)
    simp only [setL, keepE, upd_get, ev, Nat.reduceEqDiff, ↓reduceIte]
    refine h4 _ _ ?_; clear h4; try clear K4
    refine CW.seq (fun K6 h6 => ?_)
    refine CW.drawP [3] [] H (by dsimp only [pickC, nthC] <;> rfl) (by repeat first | exact List.Sublist.refl _ | exact List.nil_sublist _ | apply List.Sublist.cons_cons | apply List.Sublist.cons) (by kernel_rfl) rfl ?_
    clear H
    intro w4d H
    refine DL.take (i := 0) [] rfl (by kernel_rfl) (by kernel_rfl) (by kernel_rfl) (by kernel_rfl) rfl rfl (fun u H => x_fieldAddrO Try.underlying107 rfl Try.sizeOf3 (by decide) (show _ = 0 from rfl) rfl) (SH.sub H (by repeat first | exact List.Sublist.refl _ | exact List.nil_sublist _ | apply List.Sublist.cons_cons | apply List.Sublist.cons)) ?_
    refine DL.take (i := 1) [] rfl (by kernel_rfl) (by kernel_rfl) (by kernel_rfl) (by kernel_rfl) rfl rfl (fun u H => x_load Try.isAgg3 rfl (by first | exact SH.cellB H (by (repeat first | exact At.here | apply At.there); done) (by rfl) | assumption)) (SH.sub H (by repeat first | exact List.Sublist.refl _ | exact List.nil_sublist _ | apply List.Sublist.cons_cons | apply List.Sublist.cons)) ?_
    refine DL.take (i := 2) [] rfl (by kernel_rfl) (by kernel_rfl) (by kernel_rfl) (by kernel_rfl) rfl rfl (fun u H => x_fieldAddrO Try.underlying107 rfl Try.sizeOf41 (by decide) (show _ = 7 from rfl) rfl) (SH.sub H (by repeat first | exact List.Sublist.refl _ | exact List.nil_sublist _ | apply List.Sublist.cons_cons | apply List.Sublist.cons)) ?_
    refine DL.take (i := 3) [] rfl (by kernel_rfl) (by kernel_rfl) (by kernel_rfl) (by kernel_rfl) rfl rfl (fun u H => x_load Try.isAgg41 rfl (by first | exact SH.cellB H (by (repeat first | exact At.here | apply At.there); done) (by rfl) | assumption)) (SH.sub H (by repeat first | exact List.Sublist.refl _ | exact List.nil_sublist _ | apply List.Sublist.cons_cons | apply List.Sublist.cons)) ?_
    refine DL.one (i := 4) (by kernel_rfl) rfl rfl ?_
    refine r_call rfl Try.call70 (by simp only [List.map_cons, List.map_nil, List.map_toArray, List.toList_toArray, upd_get, ev, Nat.reduceEqDiff, ↓reduceIte] <;> rfl) (CloneI_c _ (HrA.rf (SH.propI H (i := 2) rfl) htm).1 (by dsimp only; omega)) ?_
    rintro _ w4_4 ⟨v4_4, g4_4, rfl, K⟩
    refine ⟨_, rfl, ?_⟩
    replace H := SH.call H K
    clear K
    try dsimp only [replC, List.cons_append, List.nil_append, List.append_nil] at H
    refine LW.nil (thenE_norm ⟨fun _ => (SH.sub H (by repeat first | exact List.Sublist.refl _ | exact List.nil_sublist _ | apply List.Sublist.cons_cons | apply List.Sublist.cons)), ?_⟩)
    refine DL.take (i := 5) [] rfl (by kernel_rfl) (by kernel_rfl) (by kernel_rfl) (by kernel_rfl) rfl rfl (fun u H => x_assign ) (SH.sub H (by repeat first | exact List.Sublist.refl _ | exact List.nil_sublist _ | apply List.Sublist.cons_cons | apply List.Sublist.cons)) ?_
    refine DL.take (i := 6) [] rfl (by kernel_rfl) (by kernel_rfl) (by kernel_rfl) (by kernel_rfl) rfl rfl (fun u H => x_assign ) (SH.sub H (by repeat first | exact List.Sublist.refl _ | exact List.nil_sublist _ | apply List.Sublist.cons_cons | apply List.Sublist.cons)) ?_
    refine DL.done (by kernel_rfl) ?_
    refine thenE_norm ?_
    refine cut (K := K6) [4, 5] (fun σ => ?_)
    simp only [setL, keepE, upd_get, ev, Nat.reduceEqDiff, ↓reduceIte]
    refine h6 _ _ ?_; clear h6; try clear K6
    refine CW.ret (ret2 Try.results26 (by simp only [upd_get, ev, Nat.reduceEqDiff, ↓reduceIte]; rfl) (by simp only [upd_get, ev, Nat.reduceEqDiff, ↓reduceIte]; rfl) ?_)
    rw [hlm]
    exact ⟨v4_4, g4_4, rfl, SH.give H (by repeat first | exact List.Sublist.refl _ | exact List.nil_sublist _ | apply List.Sublist.cons_cons | apply List.Sublist.cons) ⟨trivial, trivial⟩⟩
theorem HeardZ_c (sl : Int) (w : World) : Calls Try.prog 26 #[.pointer none, .int .i64 sl] w fun e w' => e = .returned (.tuple #[.int .i64 0, .slice none 0 0]) ∧ w = w' := by
  refine calls_of_CW Try.func26 rfl Try.ntmps26 (Nat.le_of_ble_eq_true rfl) ?_
  simp only [argE, argFrom, Nat.reduceAdd]
  refine CW.seq (fun K1 h1 => ?_)
  refine CW.region ?_
  refine r_assign rfl ?_
  refine r_assign rfl ?_
  refine LW.nil ?_
  refine thenE_norm (h1 _ _ ?_); clear h1; try clear K1
  refine CW.seq (fun K2 h2 => ?_)
  refine CW.seq (fun K3 h3 => ?_)
  refine CW.region ?_
  refine r_move rfl ?_
  refine r_eqlP rfl Try.underlying42 rfl rfl ?_
  refine LW.nil ?_
  refine thenE_norm (h3 _ _ ?_); clear h3; try clear K3
  refine CW.condT rfl (by first | rfl | (simp only [decide_eq_true_eq, decide_eq_false_iff_not, Bool.and_eq_true, Bool.or_eq_true, Bool.and_eq_false_iff, Bool.or_eq_false_iff, Bool.not_eq_true', Bool.not_eq_false', beq_iff_eq, bne_iff_ne]; omega) | simp_all) ?_
  refine CW.seq (fun K4 h4 => ?_)
  refine CW.region ?_
  refine r_assign rfl ?_
  refine r_assign rfl ?_
  refine LW.nil ?_
  refine thenE_norm (h4 _ _ ?_); clear h4; try clear K4
  refine CW.ret (thenE_ret (ret2 Try.results26 (by simp only [upd_get, ev, Nat.reduceEqDiff, ↓reduceIte]; rfl) (by simp only [upd_get, ev, Nat.reduceEqDiff, ↓reduceIte]; rfl) ?_))
  exact ⟨rfl, rfl⟩
theorem HearZ_c (i b sl : Int) (x : Bat) (w : World) (ho : oneC x.reqs = true) : Calls Try.prog 23 #[.pointer none, .int .i64 i, .int .i64 b, .int .i64 sl, agg x] w fun e w' => e = .returned (.int .i64 6) ∧ Ext0 w w' := by
  have H := SH.start (U := Non) (G := Any) w
  refine calls_of_CW Try.func23 rfl Try.ntmps23 (Nat.le_of_ble_eq_true rfl) ?_
  simp only [argE, argFrom, Nat.reduceAdd]
  refine CW.seq (fun K1 h1 => ?_)
  refine CW.region ?_
  refine s_box H rfl (by simp only [upd_get, ev, Nat.reduceEqDiff, ↓reduceIte] <;> rfl) rfl ?_
  clear H
  intro b0_0 w0_0 H
  try dsimp only [replC, List.cons_append, List.nil_append, List.append_nil, agg, cellsL, Value.cells, List.toList_toArray, List.set_cons_zero, List.set_cons_succ, spliceL, List.take_succ_cons, List.take_zero, List.drop_succ_cons, List.drop_zero, List.length_cons, List.length_nil, Nat.reduceAdd, Row.cells, Cm.L, Rq.L, Tp.L, Bat.L, Ty.L] at H
  refine r_assign rfl ?_
  refine LW.nil ?_
  refine thenE_norm (h1 _ _ ?_); clear h1; try clear K1
  refine CW.seq (fun K2 h2 => ?_)
  refine CW.seq (fun K3 h3 => ?_)
  refine CW.region ?_
  refine r_move rfl ?_
  refine r_eqlP rfl Try.underlying42 rfl rfl ?_
  refine LW.nil ?_
  refine thenE_norm (h3 _ _ ?_); clear h3; try clear K3
  refine CW.condT rfl (by first | rfl | (simp only [decide_eq_true_eq, decide_eq_false_iff_not, Bool.and_eq_true, Bool.or_eq_true, Bool.and_eq_false_iff, Bool.or_eq_false_iff, Bool.not_eq_true', Bool.not_eq_false', beq_iff_eq, bne_iff_ne]; omega) | simp_all) ?_
  refine CW.seq (fun K4 h4 => ?_)
  refine CW.region ?_
  refine r_assign rfl ?_
  refine LW.nil ?_
  refine thenE_norm (h4 _ _ ?_); clear h4; try clear K4
  refine CW.ret (thenE_ret (ret1 Try.results23 (by simp only [upd_get, ev, Nat.reduceEqDiff, ↓reduceIte]; rfl) ?_))
  exact ⟨rfl, H.ext⟩

/-! ### Forgetting -/
theorem del_filter : ∀ {l : List (Int × Ty)} {n : Int}, (l.map (·.1)).Nodup → delM l n = l.filter fun p => !decide (p.1 = n)
  | [], n, _ => rfl
  | p :: r, n, h => by
    rw [List.map_cons, List.nodup_cons] at h
    rw [delM]
    by_cases hp : p.1 = n
    · rw [if_pos hp, List.filter_cons, if_neg (by rw [decide_eq_true hp]; decide)]
      refine (List.filter_eq_self.2 fun q hq => ?_).symm
      have : q.1 ≠ n := fun e => h.1 (by rw [hp, ← e]; exact List.mem_map.2 ⟨q, hq, rfl⟩)
      rw [decide_eq_false this]; rfl
    · rw [if_neg hp, List.filter_cons, if_pos (by rw [decide_eq_false hp]; rfl), del_filter h.2]
/-- What is left of the entries, when some have been seen. -/
def leftK (l : List (Int × Ty)) (d : Int) (vis : List Int) : List (Int × Ty) := l.filter fun p => !(decide (p.1 ≤ d) && decide (p.1 ∈ vis))
theorem leftK_nil (l : List (Int × Ty)) (d : Int) : leftK l d [] = l := List.filter_eq_self.2 fun p _ => by simp
theorem leftK_del {l : List (Int × Ty)} {d k : Int} {vis : List Int} (h : (l.map (·.1)).Nodup) (hk : k ≤ d) : delM (leftK l d vis) k = leftK l d (k :: vis) := by
  have hd : delM (leftK l d vis) k = (leftK l d vis).filter fun p => !decide (p.1 = k) := del_filter (List.Nodup.sublist (List.Sublist.map _ List.filter_sublist) h)
  rw [hd]
  unfold leftK
  rw [List.filter_filter]
  apply List.filter_congr
  intro p _
  by_cases h1 : p.1 = k
  · have h2 : p.1 ≤ d := by omega
    simp [h1, hk]
  · simp [h1]
theorem leftK_keep {l : List (Int × Ty)} {d k : Int} {vis : List Int} (hk : ¬ k ≤ d) : leftK l d vis = leftK l d (k :: vis) := by
  rw [leftK, leftK]
  apply List.filter_congr
  intro p _
  by_cases h1 : p.1 = k
  · have h2 : ¬ p.1 ≤ d := by omega
    simp [h2]
  · simp [h1]
theorem leftK_end {l : List (Int × Ty)} {d : Int} {vis : List Int} (h : ∀ p ∈ leftK l d vis, p.1 ∈ vis) : leftK l d vis = l.filter fun p => decide (d < p.1) := by
  rw [leftK] at h ⊢
  apply List.filter_congr
  intro p hp
  by_cases h1 : p.1 ≤ d
  · have h2 : p.1 ∈ vis := by
      by_cases hv : p.1 ∈ vis
      · exact hv
      · exact h p (List.mem_filter.2 ⟨hp, by simp [hv]⟩)
    rw [decide_eq_true h1, decide_eq_true h2, decide_eq_false (by omega)]; rfl
  · have h3 : decide (d < p.1) = true := decide_eq_true (by omega)
    rw [h3, decide_eq_false h1]; rfl
def leftN (l : List (Int × Ty)) (vis : List Int) : Nat := (l.filter fun p => !decide (p.1 ∈ vis)).length
theorem leftN_lt {l : List (Int × Ty)} {vis : List Int} {k : Int} {u : Ty} (h : (k, u) ∈ l) (hk : k ∉ vis) : leftN l (k :: vis) < leftN l vis :=
  filter_lt (fun p : Int × Ty => !decide (p.1 ∈ vis)) (fun p : Int × Ty => !decide (p.1 ∈ k :: vis)) (fun x hx => by
    rw [Bool.not_eq_true', decide_eq_false_iff_not] at hx ⊢
    exact fun q => hx (List.mem_cons_of_mem _ q)) (k, u) (by simp [hk]) (by simp) l h
theorem chT_sub {l' l : List TG} (h : l'.Sublist l) : (chT l').Sublist (chT l) := by
  induction h with
  | slnil => exact List.Sublist.refl _
  | cons a _ ih => rw [show ∀ l, chT (a :: l) = a.ch ++ chT l from fun l => by simp [chT]]; exact ih.trans (List.sublist_append_right _ _)
  | cons_cons a _ ih => simp only [show ∀ l, chT (a :: l) = a.ch ++ chT l from fun l => by simp [chT]]; exact List.Sublist.append (List.Sublist.refl _) ih
theorem SH.less {U G : Nat → Prop} {w0 w : World} {L : List Ch} {l l' : List TG} {F : Nat → Prop} (H : SH U G w0 w (.P F (HrA l F) :: L)) (hs : l'.Sublist l) : ∃ F', SH U G w0 w (.P F' (HrA l' F') :: L) := by
  have hA : ObjA F w (chT l) := SH.prop H (i := 0) rfl
  have H2 := SH.unpack H (i := 0) rfl hA
  have hsub : (chT l' ++ L).Sublist (replC (Ch.P F (HrA l F) :: L) 0 (chT l)) := by
    show (chT l' ++ L).Sublist (chT l ++ L)
    exact List.Sublist.append (chT_sub hs) (List.Sublist.refl _)
  exact ⟨_, SH.pack (SH.sub H2 hsub) (AllOwn.of (chT_own _)) hr_st (fun h => h)⟩
set_option maxHeartbeats 8000000 in
theorem TrimL_c {p : Nat} {s : LnS} {FN : Nat → Prop} (d : Int) (w : World) (hN : LrnA p s FN w) :
    Calls Try.prog 34 #[.pointer (some ⟨p, 0, none⟩), .int .i64 d] w fun e w' => ∃ FN', e = .returned (.tuple #[]) ∧ SH FN Non w w' [.P FN' (LrnA p (trimL s d) FN')] := by
  obtain ⟨hok, bm, l, FH, h1, h2, hA⟩ := hN
  have H := SH.obj (G := Any) hA
  obtain ⟨s1, s2, s3⟩ := s
  dsimp only at H h1
  subst h1
  have hok' := trimL_ok d hok
  have hnd : ((kvT l).map (·.1)).Nodup := by rw [← key_eq]; exact hok.nd
  refine calls_of_CW Try.func34 rfl Try.ntmps34 (Nat.le_of_ble_eq_true rfl) ?_
  simp only [argE, argFrom, Nat.reduceAdd]
  refine CW.seq (fun K1 h1 => ?_)
  refine CW.seq (fun K2 h2 => ?_)
  refine CW.region ?_
  refine r_move rfl ?_
  refine r_eqlP rfl Try.underlying42 rfl rfl ?_
  refine r_move rfl ?_
  refine LW.known (t := 7) (c := false) rfl (by first | rfl | (simp only [decide_eq_true_eq, decide_eq_false_iff_not, Bool.and_eq_true, Bool.or_eq_true, Bool.and_eq_false_iff, Bool.or_eq_false_iff, Bool.not_eq_true', Bool.not_eq_false', beq_iff_eq, bne_iff_ne]; omega) | simp_all) (fun hg0_3 => ?_)
  refine LW.want rfl rfl hg0_3 ?_
  refine r_move rfl ?_
  refine LW.want rfl rfl hg0_3 ?_
  refine r_move rfl ?_
  refine LW.want rfl rfl hg0_3 ?_
  refine r_nilCheck rfl rfl ?_
  refine LW.want rfl rfl hg0_3 ?_
  refine r_fieldAddrO rfl Try.underlying104 rfl Try.sizeOf3 (by decide) (show _ = 1 from rfl) rfl ?_
  refine LW.want rfl rfl hg0_3 ?_
  refine r_load rfl Try.isAgg3 rfl (by first | exact SH.cellB H (by (repeat first | exact At.here | apply At.there); done) (by rfl) | exact SH.cellI H (by (repeat first | exact At.here | apply At.there); done) (by rfl) | assumption) ?_
  refine LW.want rfl rfl hg0_3 ?_
  refine r_leq rfl rfl rfl ?_
  refine r_pickF rfl rfl hg0_3 ?_
  refine r_move rfl ?_
  refine LW.splitB (t := 15) rfl (fun hg0_11 => ?_) (fun hg0_11 => ?_)
  · have hg0_11P := hg0_11
    try simp only [decide_eq_true_eq, decide_eq_false_iff_not, Bool.and_eq_true, Bool.or_eq_true, Bool.and_eq_false_iff, Bool.or_eq_false_iff, Bool.not_eq_true', Bool.not_eq_false', beq_iff_eq, bne_iff_ne] at hg0_11P
    refine LW.skip rfl (fun _ e => by cases e; decide) rfl hg0_11 ?_
    refine LW.skip rfl (fun _ e => by cases e; decide) rfl hg0_11 ?_
    refine r_pickT rfl rfl hg0_11 ?_
    refine LW.nil ?_
    refine thenE_norm ?_
    refine cut (K := K2) [0, 1, 18] (fun σ => ?_)
    simp only [setL, keepE, upd_get, ev, Nat.reduceEqDiff, ↓reduceIte]
    refine h2 _ _ ?_; clear h2; try clear K2
    refine CW.condT rfl (by first | rfl | (simp only [decide_eq_true_eq, decide_eq_false_iff_not, Bool.and_eq_true, Bool.or_eq_true, Bool.and_eq_false_iff, Bool.or_eq_false_iff, Bool.not_eq_true', Bool.not_eq_false', beq_iff_eq, bne_iff_ne]; omega) | simp_all) ?_
    refine CW.ret (thenE_ret (ret0 Try.results34 ?_))
    rw [trimL, if_pos (.inl (show d ≤ s2 by first | assumption | omega))]
    obtain ⟨FN', K⟩ := LrnA.mk hok rfl h2 (SH.sel H [0, 1, 2] (by decide) (by rfl))
    exact ⟨_, rfl, K⟩
  · have hg0_11P := hg0_11
    try simp only [decide_eq_true_eq, decide_eq_false_iff_not, Bool.and_eq_true, Bool.or_eq_true, Bool.and_eq_false_iff, Bool.or_eq_false_iff, Bool.not_eq_true', Bool.not_eq_false', beq_iff_eq, bne_iff_ne] at hg0_11P
    refine LW.want rfl rfl hg0_11 ?_
    refine r_move rfl ?_
    refine LW.want rfl rfl hg0_11 ?_
    refine r_gtr rfl rfl rfl ?_
    refine r_pickF rfl rfl hg0_11 ?_
    refine LW.nil ?_
    refine thenE_norm ?_
    refine cut (K := K2) [0, 1, 18] (fun σ => ?_)
    simp only [setL, keepE, upd_get, ev, Nat.reduceEqDiff, ↓reduceIte]
    refine h2 _ _ ?_; clear h2; try clear K2
    refine CW.cond rfl (fun hc1 => ?_) (fun hc1 => ?_)
    · try simp only [decide_eq_true_eq, decide_eq_false_iff_not, Bool.and_eq_true, Bool.or_eq_true, Bool.and_eq_false_iff, Bool.or_eq_false_iff, Bool.not_eq_true', Bool.not_eq_false', beq_iff_eq, bne_iff_ne, ne_eq, Decidable.not_not] at hc1
      refine CW.ret (thenE_ret (ret0 Try.results34 ?_))
      rw [trimL, if_pos (.inr (show 2305843009213693952 < d by omega))]
      obtain ⟨FN', K⟩ := LrnA.mk hok rfl h2 (SH.sel H [0, 1, 2] (by decide) (by rfl))
      exact ⟨_, rfl, K⟩
    · try simp only [decide_eq_true_eq, decide_eq_false_iff_not, Bool.and_eq_true, Bool.or_eq_true, Bool.and_eq_false_iff, Bool.or_eq_false_iff, Bool.not_eq_true', Bool.not_eq_false', beq_iff_eq, bne_iff_ne, ne_eq, Decidable.not_not] at hc1
      refine CW.skip ?_
      refine thenE_norm (h1 _ _ ?_); clear h1; try clear K1
      refine CW.seq (fun K3 h3 => ?_)
      refine CW.seq (fun K4 h4 => ?_)
      refine CW.region ?_
      refine r_move rfl ?_
      refine r_nilCheck rfl rfl ?_
      refine r_fieldAddrO rfl Try.underlying104 rfl Try.sizeOf102 (by decide) (show _ = 2 from rfl) rfl ?_
      refine r_load rfl Try.isAgg102 rfl (by first | exact SH.cellB H (by (repeat first | exact At.here | apply At.there); done) (by rfl) | exact SH.cellI H (by (repeat first | exact At.here | apply At.there); done) (by rfl) | assumption) ?_
      refine r_range rfl Try.underlying102 rfl (SH.prop H (i := 1) rfl) hnd ?_
      intro br w1_4 hbr hs1_4 he1_4 hrg
      replace H := SH.addRange H (i := 1) rfl hbr hs1_4 he1_4 hrg
      try dsimp only [replC, List.append_nil, List.cons_append, List.nil_append] at H
      refine LW.nil ?_
      refine thenE_norm (h4 _ _ ?_); clear h4; try clear K4
      refine CW.block ?_
      refine CW.loopR [0, 1, 23] [] (fun m vs w' => ∃ (vis : List Int), vs = [] ∧ m = leftN (kvT l) vis ∧ SH FN Any w w' [.B p 104 [.int .i64 s1, .int .i64 s2, .map (some bm)], .P (fun k => k = bm ∨ k = br) (Rg bm br (leftK (kvT l) d vis) vis), .P FH (HrA l FH)]) (leftN (kvT l) []) ?_ ?_
      · exact ⟨[], rfl, rfl, by rw [leftK_nil]; exact H⟩
      try clear H
      rintro n1 vs1 wL1 σ ⟨vis, rfl, rfl, H⟩
      simp only [setL, keepE, upd_get, ev, Nat.reduceEqDiff, ↓reduceIte]
      refine CW.seq (fun K5 h5 => ?_)
      by_cases hall : ∀ q ∈ leftK (kvT l) d vis, q.1 ∈ vis
      · refine CW.region ?_
        refine r_nextF rfl rfl (SH.prop H (i := 1) rfl) hall ?_
        refine r_extract rfl (by simp only [upd_get, ev, Nat.reduceEqDiff, ↓reduceIte] <;> rfl) (by simp only [List.getElem?_toArray, List.getElem?_cons_zero, List.getElem?_cons_succ] <;> rfl) ?_
        refine LW.nil ?_
        refine thenE_norm (h5 _ _ ?_); clear h5; try clear K5
        refine CW.seq (fun K6 h6 => ?_)
        refine CW.condF rfl (by first | rfl | (simp only [decide_eq_true_eq, decide_eq_false_iff_not, Bool.and_eq_true, Bool.or_eq_true, Bool.and_eq_false_iff, Bool.or_eq_false_iff, Bool.not_eq_true', Bool.not_eq_false', beq_iff_eq, bne_iff_ne]; omega) | simp_all) ?_
        refine CW.exit (thenE_exit (thenE_exit (blockE_hit ?_)))
        refine thenE_norm (h3 _ _ ?_); clear h3; try clear K3
        refine CW.region ?_
        refine r_move rfl ?_
        refine r_move rfl ?_
        refine r_nilCheck rfl rfl ?_
        refine r_fieldAddrO rfl Try.underlying104 rfl Try.sizeOf3 (by decide) (show _ = 1 from rfl) rfl ?_
        refine s_store H Try.sizeOf3 rfl (by simp only [upd_get, ev, Nat.reduceEqDiff, ↓reduceIte] <;> rfl) (by first | rfl | assumption | exact Rs.oneC (by first | assumption | exact SH.rsR H (by (repeat first | exact At.here | apply At.there); done) | exact SH.rsO H (by (repeat first | exact At.here | apply At.there); done) | exact (Rs.nil : Rs Non _ _ _)) | (simp only [List.all_cons, List.all_nil, Bool.and_true, Bool.and_eq_true, Row.cells, Cm.L, Rq.L, Tp.L, Bat.L, Ty.L]; (repeat' constructor) <;> first | rfl | assumption | exact Rs.oneC (by first | assumption | exact SH.rsR H (by (repeat first | exact At.here | apply At.there); done) | exact SH.rsO H (by (repeat first | exact At.here | apply At.there); done) | exact (Rs.nil : Rs Non _ _ _)))) (by (repeat first | exact At.here | apply At.there); done) (by first | (simp; done) | decide | omega) ?_
        clear H
        intro w6_4 H
        try dsimp only [replC, List.cons_append, List.nil_append, List.append_nil, agg, cellsL, Value.cells, List.toList_toArray, List.set_cons_zero, List.set_cons_succ, spliceL, List.take_succ_cons, List.take_zero, List.drop_succ_cons, List.drop_zero, List.length_cons, List.length_nil, Nat.reduceAdd, Row.cells, Cm.L, Rq.L, Tp.L, Bat.L, Ty.L] at H
        refine LW.nil ?_
        refine end0 Try.results34 ?_
        have hend := leftK_end hall
        have hgo : trimL ⟨s1, s2, msT l⟩ d = ⟨s1, d, (msT l).filter fun q => decide (d < q.1)⟩ := by
          rw [trimL, if_neg (by
            rintro (q | q)
            · dsimp only at q; omega
            · omega)]
        rw [hgo] at hok' ⊢
        have H2 := SH.cast (d := .P (fun k => k = bm) (Mp bm (kvT (l.filter fun t => decide (d < t.k))))) H (i := 1) rfl (fun _ => trivial) (fun b hb => .inl hb) mp_st (fun h => by
          have h9 := h.mp
          rw [hend] at h9
          rw [kvT, List.filter_map] at h9
          exact h9)
        obtain ⟨F9, H9⟩ := SH.less (l' := l.filter fun t => decide (d < t.k)) (SH.sel H2 [2, 0, 1] (by decide) rfl) List.filter_sublist
        obtain ⟨FN', K⟩ := LrnA.mk hok' (by rw [msT, msT, List.filter_map]; rfl) (fun t ht => h2 t (List.mem_filter.1 ht).1) (SH.sel H9 [1, 2, 0] (by decide) rfl)
        exact ⟨_, rfl, K⟩
      · refine CW.region ?_
        refine r_nextT rfl rfl (SH.prop H (i := 1) rfl) hall ?_
        intro k u w2_0 hku hkv hs2_0 he2_0 hrg2 hnx
        have hku2 : (k, u) ∈ kvT l := (List.mem_filter.1 hku).1
        have hlt := leftN_lt hku2 hkv
        replace H := SH.wroteM H (i := 1) rfl (.inr rfl) hs2_0 he2_0 rg_st hrg2
        try dsimp only [replC, List.append_nil, List.cons_append, List.nil_append] at H
        refine r_extract rfl (by simp only [upd_get, ev, Nat.reduceEqDiff, ↓reduceIte] <;> rfl) (by simp only [List.getElem?_toArray, List.getElem?_cons_zero, List.getElem?_cons_succ] <;> rfl) ?_
        refine LW.nil ?_
        refine thenE_norm (h5 _ _ ?_); clear h5; try clear K5
        refine CW.seq (fun K7 h7 => ?_)
        refine CW.condT rfl (by first | rfl | (simp only [decide_eq_true_eq, decide_eq_false_iff_not, Bool.and_eq_true, Bool.or_eq_true, Bool.and_eq_false_iff, Bool.or_eq_false_iff, Bool.not_eq_true', Bool.not_eq_false', beq_iff_eq, bne_iff_ne]; omega) | simp_all) ?_
        refine CW.skip ?_
        refine thenE_norm (h7 _ _ ?_); clear h7; try clear K7
        refine CW.block ?_
        refine CW.seq (fun K8 h8 => ?_)
        refine CW.region ?_
        refine r_entry rfl rfl hnx ?_
        refine r_extract rfl (by simp only [upd_get, ev, Nat.reduceEqDiff, ↓reduceIte] <;> rfl) (by simp only [List.getElem?_toArray, List.getElem?_cons_zero, List.getElem?_cons_succ] <;> rfl) ?_
        refine r_assign rfl ?_
        refine LW.nil ?_
        refine thenE_norm (h8 _ _ ?_); clear h8; try clear K8
        refine CW.seq (fun K9 h9 => ?_)
        refine CW.region ?_
        refine r_move rfl ?_
        refine r_move rfl ?_
        refine r_leq rfl rfl rfl ?_
        refine LW.nil ?_
        refine thenE_norm ?_
        refine cut (K := K9) [0, 1, 4, 23, 30] (fun σ => ?_)
        simp only [setL, keepE, upd_get, ev, Nat.reduceEqDiff, ↓reduceIte]
        refine h9 _ _ ?_; clear h9; try clear K9
        refine CW.cond rfl (fun hc3 => ?_) (fun hc3 => ?_)
        · try simp only [decide_eq_true_eq, decide_eq_false_iff_not, Bool.and_eq_true, Bool.or_eq_true, Bool.and_eq_false_iff, Bool.or_eq_false_iff, Bool.not_eq_true', Bool.not_eq_false', beq_iff_eq, bne_iff_ne, ne_eq, Decidable.not_not] at hc3
          refine CW.region ?_
          refine r_move rfl ?_
          refine r_nilCheck rfl rfl ?_
          refine r_fieldAddrO rfl Try.underlying104 rfl Try.sizeOf102 (by decide) (show _ = 2 from rfl) rfl ?_
          refine r_load rfl Try.isAgg102 rfl (by first | exact SH.cellB H (by (repeat first | exact At.here | apply At.there); done) (by rfl) | exact SH.cellI H (by (repeat first | exact At.here | apply At.there); done) (by rfl) | assumption) ?_
          refine r_move rfl ?_
          refine r_delete (K := 3) Try.underlying102 Try.underlying3 rfl rfl rfl (SH.prop H (i := 1) rfl) (fun _ e => by cases e) ?_
          intro w5_5 hs5_5 he5_5 hrg5
          replace H := SH.wroteM H (i := 1) rfl (.inl rfl) hs5_5 he5_5 rg_st hrg5
          try dsimp only [replC, List.append_nil, List.cons_append, List.nil_append, updo] at H
          refine LW.nil ?_
          refine blockE_norm ?_
          refine thenE_norm ⟨rfl, ?_⟩
          exact ⟨leftN (kvT l) (k :: vis), hlt, k :: vis, rfl, rfl, by rw [← leftK_del hnd hc3]; exact SH.sel H [0, 1, 2] (by decide) rfl⟩
        · try simp only [decide_eq_true_eq, decide_eq_false_iff_not, Bool.and_eq_true, Bool.or_eq_true, Bool.and_eq_false_iff, Bool.or_eq_false_iff, Bool.not_eq_true', Bool.not_eq_false', beq_iff_eq, bne_iff_ne, ne_eq, Decidable.not_not] at hc3
          refine CW.skip ?_
          refine blockE_norm ?_
          refine thenE_norm ⟨rfl, ?_⟩
          exact ⟨leftN (kvT l) (k :: vis), hlt, k :: vis, rfl, rfl, by rw [← leftK_keep hc3]; exact SH.sel H [0, 1, 2] (by decide) rfl⟩
theorem TrimLZ_c (d : Int) (w : World) : Calls Try.prog 34 #[.pointer none, .int .i64 d] w fun e w' => e = .returned (.tuple #[]) ∧ w = w' := by
  refine calls_of_CW Try.func34 rfl Try.ntmps34 (Nat.le_of_ble_eq_true rfl) ?_
  simp only [argE, argFrom, Nat.reduceAdd]
  refine CW.seq (fun K1 h1 => ?_)
  refine CW.seq (fun K2 h2 => ?_)
  refine CW.region ?_
  refine r_move rfl ?_
  refine r_eqlP rfl Try.underlying42 rfl rfl ?_
  refine r_move rfl ?_
  refine LW.known (t := 7) (c := true) rfl (by first | rfl | (simp only [decide_eq_true_eq, decide_eq_false_iff_not, Bool.and_eq_true, Bool.or_eq_true, Bool.and_eq_false_iff, Bool.or_eq_false_iff, Bool.not_eq_true', Bool.not_eq_false', beq_iff_eq, bne_iff_ne]; omega) | simp_all) (fun hg0_3 => ?_)
  refine LW.skip rfl (fun _ e => by cases e; decide) rfl hg0_3 ?_
  refine LW.skip rfl (fun _ e => by cases e; decide) rfl hg0_3 ?_
  refine LW.skip rfl (fun _ e => by cases e; decide) rfl hg0_3 ?_
  refine LW.skip rfl (fun _ e => by cases e; decide) rfl hg0_3 ?_
  refine LW.skip rfl (fun _ e => by cases e; decide) rfl hg0_3 ?_
  refine LW.skip rfl (fun _ e => by cases e; decide) rfl hg0_3 ?_
  refine r_pickT rfl rfl hg0_3 ?_
  refine r_move rfl ?_
  refine LW.known (t := 15) (c := true) rfl (by first | rfl | (simp only [decide_eq_true_eq, decide_eq_false_iff_not, Bool.and_eq_true, Bool.or_eq_true, Bool.and_eq_false_iff, Bool.or_eq_false_iff, Bool.not_eq_true', Bool.not_eq_false', beq_iff_eq, bne_iff_ne]; omega) | simp_all) (fun hg0_11 => ?_)
  refine LW.skip rfl (fun _ e => by cases e; decide) rfl hg0_11 ?_
  refine LW.skip rfl (fun _ e => by cases e; decide) rfl hg0_11 ?_
  refine r_pickT rfl rfl hg0_11 ?_
  refine LW.nil ?_
  refine thenE_norm (h2 _ _ ?_); clear h2; try clear K2
  refine CW.condT rfl (by first | rfl | (simp only [decide_eq_true_eq, decide_eq_false_iff_not, Bool.and_eq_true, Bool.or_eq_true, Bool.and_eq_false_iff, Bool.or_eq_false_iff, Bool.not_eq_true', Bool.not_eq_false', beq_iff_eq, bne_iff_ne]; omega) | simp_all) ?_
  refine CW.ret (thenE_ret (ret0 Try.results34 ?_))
  exact ⟨rfl, rfl⟩
end Go.Proofs.Ytalieccfdmokmaa
