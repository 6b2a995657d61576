/-
  The walks of layer 9's functions, the fifth part: the document's Fresh and Keep.
-/
import Derived.Test.YtlfbofnfhhddbaaVMmE
namespace Go.Proofs.Ytlfbofnfhhddbaa
set_option linter.unusedSimpArgs false
set_option linter.unusedVariables false
set_option maxRecDepth 20000
open Go.V Go.RowKit Go.ChangeShapes Go.WideShapes

theorem lastN_some {ms : List Mm} {c : Int} {m : Mm} (h : ms.find? (isK Mm.client c) = some m) : lastN ms c = (m, true) := by rw [lastN, h]
theorem lastN_none {ms : List Mm} {c : Int} (h : ms.find? (isK Mm.client c) = none) : lastN ms c = (⟨0, 0, 0, 0, 0, []⟩, false) := by rw [lastN, h]
set_option maxHeartbeats 4000000 in
theorem FreshR_c {F K : Nat → Prop} {v : Value} {raws : List Mem} {ms : List Mm} (c q : Int) (w : World) (hv : Rs F w v raws) (hm : MmsA K raws ms w) :
    Calls Try.prog 67 #[v, .int .i64 c, .int .i64 q] w fun e w' => e = .returned (.int .i64 (freshN ms c q)) ∧ Ext0 w w' := by
  have H := (SH.start w).arg hv
  refine calls_of_CW Try.func67 rfl Try.ntmps67 (Nat.le_of_ble_eq_true rfl) ?_
  simp only [argE, argFrom, Nat.reduceAdd]
  refine CW.seq (fun K1 h1 => ?_)
  refine CW.region ?_
  refine r_assign rfl ?_
  refine LW.nil ?_
  refine thenE_norm (h1 _ _ ?_); clear h1; try clear K1
  refine CW.seq (fun K2 h2 => ?_)
  refine CW.region ?_
  refine r_move rfl ?_
  refine r_move rfl ?_
  refine r_call rfl Try.call69 (by simp only [List.map_cons, List.map_nil, List.map_toArray, List.toList_toArray, upd_get, ev, Nat.reduceEqDiff, ↓reduceIte] <;> rfl) (LastR_c _ _ (by exact SH.rsR H At.here) (hm.up0 (SH.ext H))) ?_
  rintro _ w1_2 ⟨r1_2, rfl, hr1_2, X⟩
  refine ⟨_, rfl, ?_⟩
  replace H := SH.same H X
  clear X
  obtain ⟨r1, r2, ⟨r3, r4, r5, r6⟩⟩ := r1_2
  have hr12 := hr1_2 K w hm
  have ho6 : oneC r6 = true := Rs.oneC hr12.2.2.2.2.2
  have hq : r2 = (lastN ms c).1.seq := hr12.2.1
  refine r_move rfl ?_
  refine r_extract rfl (by simp only [upd_get, ev, Nat.reduceEqDiff, ↓reduceIte] <;> rfl) (by simp only [List.getElem?_toArray, List.getElem?_cons_zero, List.getElem?_cons_succ] <;> rfl) ?_
  refine r_extract rfl (by simp only [upd_get, ev, Nat.reduceEqDiff, ↓reduceIte] <;> rfl) (by simp only [List.getElem?_toArray, List.getElem?_cons_zero, List.getElem?_cons_succ] <;> rfl) ?_
  refine s_alloc (cs := [.int .i64 0, .int .i64 0, .int .i64 0, .int .i64 0, .int .i64 0, .slice none 0 0]) H rfl Try.zeroValue80 rfl ?_
  clear H
  intro b1_6 w1_6 H
  try dsimp only [replC, List.cons_append, List.nil_append, List.append_nil, agg, cellsL, Value.cells, List.toList_toArray, List.set_cons_zero, List.set_cons_succ, spliceL, List.take_succ_cons, List.take_zero, List.drop_succ_cons, List.drop_zero, List.length_cons, List.length_nil, Nat.reduceAdd, Row.cells, Gr.L, Rep.L, Mem.L, Ans.L] at H
  refine s_storeA H Try.sizeOf80 rfl (by simp only [upd_get, ev, Nat.reduceEqDiff, ↓reduceIte] <;> rfl) (by simp only [cellsL, agg, List.toList_toArray, Row.cells, Gr.L, Rep.L, Mem.L, Ans.L] <;> rfl) (by rfl) (by first | rfl | assumption | exact Rs.oneC (by first | assumption | exact SH.rsR H (by (repeat first | exact At.here | apply At.there); done) | exact SH.rsO H (by (repeat first | exact At.here | apply At.there); done) | exact (Rs.nil : Rs Non _ _ _)) | (simp only [List.all_cons, List.all_nil, Bool.and_true, Bool.and_eq_true, Row.cells, Gr.L, Rep.L, Mem.L, Ans.L]; (repeat' constructor) <;> first | rfl | assumption | exact Rs.oneC (by first | assumption | exact SH.rsR H (by (repeat first | exact At.here | apply At.there); done) | exact SH.rsO H (by (repeat first | exact At.here | apply At.there); done) | exact (Rs.nil : Rs Non _ _ _)))) (by (repeat first | exact At.here | apply At.there); done) (by first | (simp; done) | decide | (show _ ≤ _; decide)) ?_
  clear H
  intro w1_7 H
  try dsimp only [replC, List.cons_append, List.nil_append, List.append_nil, agg, cellsL, Value.cells, List.toList_toArray, List.set_cons_zero, List.set_cons_succ, spliceL, List.take_succ_cons, List.take_zero, List.drop_succ_cons, List.drop_zero, List.length_cons, List.length_nil, Nat.reduceAdd, Row.cells, Gr.L, Rep.L, Mem.L, Ans.L] at H
  refine r_assign rfl ?_
  refine LW.nil ?_
  refine thenE_norm ?_
  refine cut (K := K2) [2, 7, 8] (fun σ => ?_)
  simp only [setL, keepE, upd_get, ev, Nat.reduceEqDiff, ↓reduceIte]
  refine h2 _ _ ?_; clear h2; try clear K2
  refine CW.seq (fun K3 h3 => ?_)
  refine CW.block ?_
  refine CW.seq (fun K4 h4 => ?_)
  cases hf : ms.find? (isK Mm.client c)
  · rw [lastN_none hf] at hq ⊢
    refine CW.region ?_
    refine r_move rfl ?_
    refine r_not rfl rfl ?_
    refine r_move rfl ?_
    refine LW.known (t := 18) (c := true) rfl (by first | rfl | (simp only [decide_eq_true_eq, decide_eq_false_iff_not, Bool.and_eq_true, Bool.or_eq_true, Bool.and_eq_false_iff, Bool.or_eq_false_iff, Bool.not_eq_true', Bool.not_eq_false', beq_iff_eq, bne_iff_ne]; omega) | simp_all) (fun hg2_3 => ?_)
    refine LW.skip rfl (fun _ e => by cases e; decide) rfl hg2_3 ?_
    refine LW.skip rfl (fun _ e => by cases e; decide) rfl hg2_3 ?_
    refine LW.skip rfl (fun _ e => by cases e; decide) rfl hg2_3 ?_
    refine LW.skip rfl (fun _ e => by cases e; decide) rfl hg2_3 ?_
    refine r_pickT rfl rfl hg2_3 ?_
    refine r_assign rfl ?_
    refine LW.nil ?_
    refine thenE_norm (h4 _ _ ?_); clear h4; try clear K4
    refine CW.condT rfl (by first | rfl | (simp only [decide_eq_true_eq, decide_eq_false_iff_not, Bool.and_eq_true, Bool.or_eq_true, Bool.and_eq_false_iff, Bool.or_eq_false_iff, Bool.not_eq_true', Bool.not_eq_false', beq_iff_eq, bne_iff_ne]; omega) | simp_all) ?_
    refine CW.seq (fun K5 h5 => ?_)
    refine CW.region ?_
    refine r_assign rfl ?_
    refine LW.nil ?_
    refine thenE_norm (h5 _ _ ?_); clear h5; try clear K5
    refine CW.ret (blockE_ret (thenE_ret (ret1 Try.results67 (by simp only [upd_get, ev, Nat.reduceEqDiff, ↓reduceIte]; rfl) ?_)))
    rw [fresh_none hf]
    exact ⟨rfl, H.ext⟩
  · rename_i m
    rw [lastN_some hf] at hq ⊢
    dsimp only at hq
    refine CW.region ?_
    refine r_move rfl ?_
    refine r_not rfl rfl ?_
    refine r_move rfl ?_
    refine LW.known (t := 18) (c := false) rfl (by first | rfl | (simp only [decide_eq_true_eq, decide_eq_false_iff_not, Bool.and_eq_true, Bool.or_eq_true, Bool.and_eq_false_iff, Bool.or_eq_false_iff, Bool.not_eq_true', Bool.not_eq_false', beq_iff_eq, bne_iff_ne]; omega) | simp_all) (fun hg2_3 => ?_)
    refine LW.want rfl rfl hg2_3 ?_
    refine r_fieldAddrO rfl Try.underlying80 rfl Try.sizeOf3 (by decide) (show _ = 1 from rfl) rfl ?_
    refine LW.want rfl rfl hg2_3 ?_
    refine r_load rfl Try.isAgg3 rfl (by first | exact SH.cellB H (by (repeat first | exact At.here | apply At.there); done) (by rfl) | assumption) ?_
    refine LW.want rfl rfl hg2_3 ?_
    refine r_move rfl ?_
    refine LW.want rfl rfl hg2_3 ?_
    refine r_lss rfl rfl rfl ?_
    refine r_pickF rfl rfl hg2_3 ?_
    refine r_assign rfl ?_
    refine LW.nil ?_
    refine thenE_norm ?_
    refine cut (K := K4) [2, 7, 15] (fun σ => ?_)
    simp only [setL, keepE, upd_get, ev, Nat.reduceEqDiff, ↓reduceIte]
    refine h4 _ _ ?_; clear h4; try clear K4
    refine CW.cond rfl (fun hc1 => ?_) (fun hc1 => ?_)
    · try simp only [decide_eq_true_eq, decide_eq_false_iff_not, Bool.and_eq_true, Bool.or_eq_true, Bool.and_eq_false_iff, Bool.or_eq_false_iff, Bool.not_eq_true', Bool.not_eq_false', beq_iff_eq, bne_iff_ne, ne_eq, Decidable.not_not] at hc1
      refine CW.seq (fun K6 h6 => ?_)
      refine CW.region ?_
      refine r_assign rfl ?_
      refine LW.nil ?_
      refine thenE_norm (h6 _ _ ?_); clear h6; try clear K6
      refine CW.ret (blockE_ret (thenE_ret (ret1 Try.results67 (by simp only [upd_get, ev, Nat.reduceEqDiff, ↓reduceIte]; rfl) ?_)))
      rw [fresh_some hf, if_pos (by omega)]
      exact ⟨rfl, H.ext⟩
    · try simp only [decide_eq_true_eq, decide_eq_false_iff_not, Bool.and_eq_true, Bool.or_eq_true, Bool.and_eq_false_iff, Bool.or_eq_false_iff, Bool.not_eq_true', Bool.not_eq_false', beq_iff_eq, bne_iff_ne, ne_eq, Decidable.not_not] at hc1
      refine CW.seq (fun K7 h7 => ?_)
      refine CW.region ?_
      refine r_fieldAddrO rfl Try.underlying80 rfl Try.sizeOf3 (by decide) (show _ = 1 from rfl) rfl ?_
      refine r_load rfl Try.isAgg3 rfl (by first | exact SH.cellB H (by (repeat first | exact At.here | apply At.there); done) (by rfl) | assumption) ?_
      refine r_move rfl ?_
      refine r_eql rfl rfl rfl ?_
      refine r_assign rfl ?_
      refine LW.nil ?_
      refine thenE_norm (h7 _ _ ?_); clear h7; try clear K7
      refine CW.cond rfl (fun hc2 => ?_) (fun hc2 => ?_)
      · try simp only [decide_eq_true_eq, decide_eq_false_iff_not, Bool.and_eq_true, Bool.or_eq_true, Bool.and_eq_false_iff, Bool.or_eq_false_iff, Bool.not_eq_true', Bool.not_eq_false', beq_iff_eq, bne_iff_ne, ne_eq, Decidable.not_not] at hc2
        refine CW.seq (fun K8 h8 => ?_)
        refine CW.region ?_
        refine r_assign rfl ?_
        refine LW.nil ?_
        refine thenE_norm (h8 _ _ ?_); clear h8; try clear K8
        refine CW.ret (blockE_ret (thenE_ret (ret1 Try.results67 (by simp only [upd_get, ev, Nat.reduceEqDiff, ↓reduceIte]; rfl) ?_)))
        rw [fresh_some hf, if_neg (by omega), if_pos (by omega)]
        exact ⟨rfl, H.ext⟩
      · try simp only [decide_eq_true_eq, decide_eq_false_iff_not, Bool.and_eq_true, Bool.or_eq_true, Bool.and_eq_false_iff, Bool.or_eq_false_iff, Bool.not_eq_true', Bool.not_eq_false', beq_iff_eq, bne_iff_ne, ne_eq, Decidable.not_not] at hc2
        refine CW.skip ?_
        refine blockE_norm ?_
        refine thenE_norm (h3 _ _ ?_); clear h3; try clear K3
        refine CW.seq (fun K9 h9 => ?_)
        refine CW.region ?_
        refine r_assign rfl ?_
        refine LW.nil ?_
        refine thenE_norm (h9 _ _ ?_); clear h9; try clear K9
        refine CW.ret (ret1 Try.results67 (by simp only [upd_get, ev, Nat.reduceEqDiff, ↓reduceIte]; rfl) ?_)
        rw [fresh_some hf, if_neg (by omega), if_neg (by omega)]
        exact ⟨rfl, H.ext⟩
/-- The raw memo of an answer. -/
def memA (a : Ans) : Mem := ⟨a.client, a.seq, a.reply⟩
def mmA (a : Ans) (gs : List Gr) : Mm := ⟨a.client, a.seq, a.reply.code, a.reply.session, a.reply.ahead, gs⟩
theorem memA_r {K : Nat → Prop} {w : World} {a : Ans} {gs : List Gr} (h : Rs K w a.reply.held gs) : MmR K w (memA a) (mmA a gs) := ⟨rfl, rfl, rfl, rfl, rfl, h⟩
/-- The raw memos behind an answer. -/
def keepRaw (raws : List Mem) (ms : List Mm) (a : Ans) (gs : List Gr) : List Mem := if mayN (mmA a gs) = true ∧ freshN ms a.client a.seq = 1 then putK Mem.client raws (memA a) else raws
theorem keepRaw_r {K : Nat → Prop} {w : World} {raws : List Mem} {ms : List Mm} {a : Ans} {gs : List Gr} (hm : MmsA K raws ms w) (ha : Rs K w a.reply.held gs) : MmsA K (keepRaw raws ms a gs) (keepN ms (mmA a gs)) w := by
  unfold keepRaw keepN
  by_cases h : mayN (mmA a gs) = true ∧ freshN ms a.client a.seq = 1
  · rw [if_pos h, if_pos (show mayN (mmA a gs) = true ∧ freshN ms (mmA a gs).client (mmA a gs).seq = 1 from h)]
    exact all2_put mmr_key hm (memA_r ha)
  · rw [if_neg h, if_neg (show ¬ (mayN (mmA a gs) = true ∧ freshN ms (mmA a gs).client (mmA a gs).seq = 1) from h)]
    exact hm
set_option maxHeartbeats 8000000 in
theorem KeepR_c {F K : Nat → Prop} {v : Value} {raws : List Mem} {ms : List Mm} (a : Ans) {gs : List Gr} (w : World) (hv : Rs F w v raws) (hm : MmsA K raws ms w) (ha : Rs K w a.reply.held gs) (hn : raws.length ≤ 1000000) (hup : UpK Mm.client ms) :
    Calls Try.prog 65 #[v, agg a] w fun e w' => ∃ (v' : Value) (g : Option Nat), e = .returned v' ∧ SH Non Non w w' [.O 80 v' (keepRaw raws ms a gs) g] := by
  obtain ⟨a1, a2, ⟨a3, a4, a5, a6⟩⟩ := a
  have ho6 : oneC a6 = true := Rs.oneC ha
  have H := (SH.start w).arg hv
  have h63 := hv.len63
  have hupr := all2_up mmr_key hm hup
  dsimp only at ha
  refine calls_of_CW Try.func65 rfl Try.ntmps65 (Nat.le_of_ble_eq_true rfl) ?_
  simp only [argE, argFrom, Nat.reduceAdd]
  refine CW.seq (fun K1 h1 => ?_)
  refine CW.region ?_
  refine s_box H rfl (by simp only [upd_get, ev, Nat.reduceEqDiff, ↓reduceIte] <;> rfl) rfl ?_
  clear H
  intro b0_0 w0_0 H
  try dsimp only [replC, List.cons_append, List.nil_append, List.append_nil, agg, cellsL, Value.cells, List.toList_toArray, List.set_cons_zero, List.set_cons_succ, spliceL, List.take_succ_cons, List.take_zero, List.drop_succ_cons, List.drop_zero, List.length_cons, List.length_nil, Nat.reduceAdd, Row.cells, Gr.L, Rep.L, Mem.L, Ans.L] at H
  refine r_assign rfl ?_
  refine LW.nil ?_
  refine thenE_norm (h1 _ _ ?_); clear h1; try clear K1
  refine CW.seq (fun K2 h2 => ?_)
  refine CW.seq (fun K3 h3 => ?_)
  refine CW.region ?_
  refine r_loadA rfl Try.isAgg66 Try.sizeOf66 rfl (by first | exact SH.cells H (by (repeat first | exact At.here | apply At.there); done)) (by rfl) ?_
  refine r_call rfl Try.call47 (by simp only [List.map_cons, List.map_nil, List.map_toArray, List.toList_toArray, upd_get, ev, Nat.reduceEqDiff, ↓reduceIte] <;> rfl) (MayAnsR_c ⟨_, _, ⟨_, _, _, _⟩⟩ _ (ha.up0 (SH.ext H))) ?_
  rintro _ w1_1 ⟨rfl, X⟩
  refine ⟨_, rfl, ?_⟩
  replace H := SH.same H X
  clear X
  refine r_not rfl rfl ?_
  refine r_move rfl ?_
  refine LW.splitB (t := 12) rfl (fun hg1_4 => ?_) (fun hg1_4 => ?_)
  · have hg1_4P := hg1_4
    try simp only [decide_eq_true_eq, decide_eq_false_iff_not, Bool.and_eq_true, Bool.or_eq_true, Bool.and_eq_false_iff, Bool.or_eq_false_iff, Bool.not_eq_true', Bool.not_eq_false', beq_iff_eq, bne_iff_ne] at hg1_4P
    refine LW.skip rfl (fun _ e => by cases e; decide) rfl hg1_4 ?_
    refine LW.skip rfl (fun _ e => by cases e; decide) rfl hg1_4 ?_
    refine LW.skip rfl (fun _ e => by cases e; decide) rfl hg1_4 ?_
    refine LW.skip rfl (fun _ e => by cases e; decide) rfl hg1_4 ?_
    refine LW.skip rfl (fun _ e => by cases e; decide) rfl hg1_4 ?_
    refine LW.skip rfl (fun _ e => by cases e; decide) rfl hg1_4 ?_
    refine LW.skip rfl (fun _ e => by cases e; decide) rfl hg1_4 ?_
    refine r_pickT rfl rfl hg1_4 ?_
    refine LW.nil ?_
    refine thenE_norm (h3 _ _ ?_); clear h3; try clear K3
    refine CW.condT rfl (by first | rfl | (simp only [decide_eq_true_eq, decide_eq_false_iff_not, Bool.and_eq_true, Bool.or_eq_true, Bool.and_eq_false_iff, Bool.or_eq_false_iff, Bool.not_eq_true', Bool.not_eq_false', beq_iff_eq, bne_iff_ne]; omega) | simp_all) ?_
    refine CW.seq (fun K4 h4 => ?_)
    refine CW.region ?_
    refine r_buildSlice0 rfl Try.underlying81 Try.sizeOf80 rfl ?_
    intro b2_0 w2_0 hb2_0 hs2_0 hE2_0 hB2_0
    replace H := SH.call H (SH.fromB hE2_0 hb2_0 hs2_0 hB2_0)
    clear hb2_0 hs2_0 hE2_0 hB2_0
    try dsimp only [replC, List.cons_append, List.nil_append, List.append_nil, agg, cellsL, Value.cells, List.toList_toArray, List.set_cons_zero, List.set_cons_succ, spliceL, List.take_succ_cons, List.take_zero, List.drop_succ_cons, List.drop_zero, List.length_cons, List.length_nil, Nat.reduceAdd, Row.cells, Gr.L, Rep.L, Mem.L, Ans.L] at H
    replace H := SH.row (b := b2_0) (xs := ([] : List Mem)) (n := 0) (cap := 0) H (by (repeat first | exact At.here | apply At.there); done) (by simp only [flat, List.flatMap_cons, List.flatMap_nil, cellsL, agg, List.append_nil, List.cons_append, List.nil_append, List.toList_toArray, Row.cells, Gr.L, Rep.L, Mem.L, Ans.L] <;> rfl) (by intro x hx; first | rfl | (simp at hx; done) | (simp only [List.mem_cons, List.not_mem_nil, or_false] at hx; rcases hx with rfl <;> first | rfl | exact (by first | rfl | assumption | exact Rs.oneC (by first | assumption | exact SH.rsR H (by (repeat first | exact At.here | apply At.there); done) | exact SH.rsO H (by (repeat first | exact At.here | apply At.there); done) | exact (Rs.nil : Rs Non _ _ _)) | (simp only [List.all_cons, List.all_nil, Bool.and_true, Bool.and_eq_true, Row.cells, Gr.L, Rep.L, Mem.L, Ans.L]; (repeat' constructor) <;> first | rfl | assumption | exact Rs.oneC (by first | assumption | exact SH.rsR H (by (repeat first | exact At.here | apply At.there); done) | exact SH.rsO H (by (repeat first | exact At.here | apply At.there); done) | exact (Rs.nil : Rs Non _ _ _)))))) (by rfl) rfl (by decide)
    try dsimp only [replC, List.cons_append, List.nil_append, List.append_nil, agg, cellsL, Value.cells, List.toList_toArray, List.set_cons_zero, List.set_cons_succ, spliceL, List.take_succ_cons, List.take_zero, List.drop_succ_cons, List.drop_zero, List.length_cons, List.length_nil, Nat.reduceAdd, Row.cells, Gr.L, Rep.L, Mem.L, Ans.L] at H
    refine r_move rfl ?_
    first
      | refine s_append H rfl Try.underlying81 Try.underlying81 Try.type80 rfl (by simp only [upd_get, ev, Nat.reduceEqDiff, ↓reduceIte] <;> rfl) (by simp only [upd_get, ev, Nat.reduceEqDiff, ↓reduceIte] <;> rfl) (by (repeat first | exact At.here | apply At.there); done) (by first | assumption | exact SH.rsR H (by (repeat first | exact At.here | apply At.there); done) | exact SH.rsO H (by (repeat first | exact At.here | apply At.there); done) | exact (Rs.nil : Rs Non _ _ _)) (by rfl) (by rfl) (by first | omega | (simp only [Try.t80, List.length_append, List.length_cons, List.length_nil, List.length_map, maxLen]; omega) | (simp [Try.t80, maxLen]; omega)) (by first | omega | (simp only [Try.t80, List.length_append, List.length_cons, List.length_nil, List.length_map, maxLen]; omega) | (simp [Try.t80, maxLen]; omega)) ?_
      | refine s_appendNil H rfl Try.underlying81 Try.underlying81 Try.type80 rfl rfl (by simp only [upd_get, ev, Nat.reduceEqDiff, ↓reduceIte] <;> rfl) (by first | assumption | exact SH.rsR H (by (repeat first | exact At.here | apply At.there); done) | exact SH.rsO H (by (repeat first | exact At.here | apply At.there); done) | exact (Rs.nil : Rs Non _ _ _)) (by rfl) (by rfl) (by first | omega | (simp only [Try.t80, List.length_append, List.length_cons, List.length_nil, List.length_map, maxLen]; omega) | (simp [Try.t80, maxLen]; omega)) ?_
    clear H
    intro v2_2 w2_2 g2_2 H hN2_2
    try dsimp only [replC, List.cons_append, List.nil_append, List.append_nil] at H
    refine r_assign rfl ?_
    refine LW.nil ?_
    refine thenE_norm ?_
    refine cut (K := K4) [4] (fun σ => ?_)
    simp only [setL, keepE, upd_get, ev, Nat.reduceEqDiff, ↓reduceIte]
    refine h4 _ _ ?_; clear h4; try clear K4
    refine CW.ret (thenE_ret (ret1 Try.results65 (by simp only [upd_get, ev, Nat.reduceEqDiff, ↓reduceIte]; rfl) ?_))
    rw [keepRaw, if_neg (fun h => Bool.false_ne_true (hg1_4P.symm.trans (show mayAns a1 a2 a3 a4 a5 gs = true from h.1)))]
    exact ⟨_, _, rfl, SH.give H (by repeat first | exact List.Sublist.refl _ | exact List.nil_sublist _ | apply List.Sublist.cons_cons | apply List.Sublist.cons) ⟨trivial, trivial⟩⟩
  · have hg1_4P := hg1_4
    try simp only [decide_eq_true_eq, decide_eq_false_iff_not, Bool.and_eq_true, Bool.or_eq_true, Bool.and_eq_false_iff, Bool.or_eq_false_iff, Bool.not_eq_true', Bool.not_eq_false', beq_iff_eq, bne_iff_ne] at hg1_4P
    refine LW.want rfl rfl hg1_4 ?_
    refine r_move rfl ?_
    refine LW.want rfl rfl hg1_4 ?_
    refine r_fieldAddrO rfl Try.underlying66 rfl Try.sizeOf3 (by decide) (show _ = 0 from rfl) rfl ?_
    refine LW.want rfl rfl hg1_4 ?_
    refine r_load rfl Try.isAgg3 rfl (by first | exact SH.cellB H (by (repeat first | exact At.here | apply At.there); done) (by rfl) | assumption) ?_
    refine LW.want rfl rfl hg1_4 ?_
    refine r_fieldAddrO rfl Try.underlying66 rfl Try.sizeOf3 (by decide) (show _ = 1 from rfl) rfl ?_
    refine LW.want rfl rfl hg1_4 ?_
    refine r_load rfl Try.isAgg3 rfl (by first | exact SH.cellB H (by (repeat first | exact At.here | apply At.there); done) (by rfl) | assumption) ?_
    refine LW.want rfl rfl hg1_4 ?_
    refine r_call rfl Try.call67 (by simp only [List.map_cons, List.map_nil, List.map_toArray, List.toList_toArray, upd_get, ev, Nat.reduceEqDiff, ↓reduceIte] <;> rfl) (FreshR_c _ _ _ (by exact SH.rsR H At.here) (hm.up0 (SH.ext H))) ?_
    rintro _ w1_9 ⟨rfl, X⟩
    refine ⟨_, rfl, ?_⟩
    replace H := SH.same H X
    clear X
    refine LW.want rfl rfl hg1_4 ?_
    refine r_neq rfl rfl rfl ?_
    refine r_pickF rfl rfl hg1_4 ?_
    refine LW.nil ?_
    refine thenE_norm ?_
    refine cut (K := K3) [0, 3, 20] (fun σ => ?_)
    simp only [setL, keepE, upd_get, ev, Nat.reduceEqDiff, ↓reduceIte]
    refine h3 _ _ ?_; clear h3; try clear K3
    refine CW.cond rfl (fun hc1 => ?_) (fun hc1 => ?_)
    · try simp only [decide_eq_true_eq, decide_eq_false_iff_not, Bool.and_eq_true, Bool.or_eq_true, Bool.and_eq_false_iff, Bool.or_eq_false_iff, Bool.not_eq_true', Bool.not_eq_false', beq_iff_eq, bne_iff_ne, ne_eq, Decidable.not_not] at hc1
      refine CW.seq (fun K5 h5 => ?_)
      refine CW.region ?_
      refine r_buildSlice0 rfl Try.underlying81 Try.sizeOf80 rfl ?_
      intro b2_0 w2_0 hb2_0 hs2_0 hE2_0 hB2_0
      replace H := SH.call H (SH.fromB hE2_0 hb2_0 hs2_0 hB2_0)
      clear hb2_0 hs2_0 hE2_0 hB2_0
      try dsimp only [replC, List.cons_append, List.nil_append, List.append_nil, agg, cellsL, Value.cells, List.toList_toArray, List.set_cons_zero, List.set_cons_succ, spliceL, List.take_succ_cons, List.take_zero, List.drop_succ_cons, List.drop_zero, List.length_cons, List.length_nil, Nat.reduceAdd, Row.cells, Gr.L, Rep.L, Mem.L, Ans.L] at H
      replace H := SH.row (b := b2_0) (xs := ([] : List Mem)) (n := 0) (cap := 0) H (by (repeat first | exact At.here | apply At.there); done) (by simp only [flat, List.flatMap_cons, List.flatMap_nil, cellsL, agg, List.append_nil, List.cons_append, List.nil_append, List.toList_toArray, Row.cells, Gr.L, Rep.L, Mem.L, Ans.L] <;> rfl) (by intro x hx; first | rfl | (simp at hx; done) | (simp only [List.mem_cons, List.not_mem_nil, or_false] at hx; rcases hx with rfl <;> first | rfl | exact (by first | rfl | assumption | exact Rs.oneC (by first | assumption | exact SH.rsR H (by (repeat first | exact At.here | apply At.there); done) | exact SH.rsO H (by (repeat first | exact At.here | apply At.there); done) | exact (Rs.nil : Rs Non _ _ _)) | (simp only [List.all_cons, List.all_nil, Bool.and_true, Bool.and_eq_true, Row.cells, Gr.L, Rep.L, Mem.L, Ans.L]; (repeat' constructor) <;> first | rfl | assumption | exact Rs.oneC (by first | assumption | exact SH.rsR H (by (repeat first | exact At.here | apply At.there); done) | exact SH.rsO H (by (repeat first | exact At.here | apply At.there); done) | exact (Rs.nil : Rs Non _ _ _)))))) (by rfl) rfl (by decide)
      try dsimp only [replC, List.cons_append, List.nil_append, List.append_nil, agg, cellsL, Value.cells, List.toList_toArray, List.set_cons_zero, List.set_cons_succ, spliceL, List.take_succ_cons, List.take_zero, List.drop_succ_cons, List.drop_zero, List.length_cons, List.length_nil, Nat.reduceAdd, Row.cells, Gr.L, Rep.L, Mem.L, Ans.L] at H
      refine r_move rfl ?_
      first
        | refine s_append H rfl Try.underlying81 Try.underlying81 Try.type80 rfl (by simp only [upd_get, ev, Nat.reduceEqDiff, ↓reduceIte] <;> rfl) (by simp only [upd_get, ev, Nat.reduceEqDiff, ↓reduceIte] <;> rfl) (by (repeat first | exact At.here | apply At.there); done) (by first | assumption | exact SH.rsR H (by (repeat first | exact At.here | apply At.there); done) | exact SH.rsO H (by (repeat first | exact At.here | apply At.there); done) | exact (Rs.nil : Rs Non _ _ _)) (by rfl) (by rfl) (by first | omega | (simp only [Try.t80, List.length_append, List.length_cons, List.length_nil, List.length_map, maxLen]; omega) | (simp [Try.t80, maxLen]; omega)) (by first | omega | (simp only [Try.t80, List.length_append, List.length_cons, List.length_nil, List.length_map, maxLen]; omega) | (simp [Try.t80, maxLen]; omega)) ?_
        | refine s_appendNil H rfl Try.underlying81 Try.underlying81 Try.type80 rfl rfl (by simp only [upd_get, ev, Nat.reduceEqDiff, ↓reduceIte] <;> rfl) (by first | assumption | exact SH.rsR H (by (repeat first | exact At.here | apply At.there); done) | exact SH.rsO H (by (repeat first | exact At.here | apply At.there); done) | exact (Rs.nil : Rs Non _ _ _)) (by rfl) (by rfl) (by first | omega | (simp only [Try.t80, List.length_append, List.length_cons, List.length_nil, List.length_map, maxLen]; omega) | (simp [Try.t80, maxLen]; omega)) ?_
      clear H
      intro v2_2 w2_2 g2_2 H hN2_2
      try dsimp only [replC, List.cons_append, List.nil_append, List.append_nil] at H
      refine r_assign rfl ?_
      refine LW.nil ?_
      refine thenE_norm (h5 _ _ ?_); clear h5; try clear K5
      refine CW.ret (thenE_ret (ret1 Try.results65 (by simp only [upd_get, ev, Nat.reduceEqDiff, ↓reduceIte]; rfl) ?_))
      rw [keepRaw, if_neg (fun h => by exact hc1 h.2)]
      exact ⟨_, _, rfl, SH.give H (by repeat first | exact List.Sublist.refl _ | exact List.nil_sublist _ | apply List.Sublist.cons_cons | apply List.Sublist.cons) ⟨trivial, trivial⟩⟩
    · try simp only [decide_eq_true_eq, decide_eq_false_iff_not, Bool.and_eq_true, Bool.or_eq_true, Bool.and_eq_false_iff, Bool.or_eq_false_iff, Bool.not_eq_true', Bool.not_eq_false', beq_iff_eq, bne_iff_ne, ne_eq, Decidable.not_not] at hc1
      refine CW.skip ?_
      refine thenE_norm (h2 _ _ ?_); clear h2; try clear K2
      refine CW.seq (fun K6 h6 => ?_)
      have hkeep : keepRaw raws ms ⟨a1, a2, ⟨a3, a4, a5, a6⟩⟩ gs = putK Mem.client raws ⟨a1, a2, ⟨a3, a4, a5, a6⟩⟩ := by
        rw [keepRaw, if_pos ⟨hg1_4P, hc1⟩]; rfl
      have hlen := fun i => insP_len (k := Mem.client) (m := (⟨a1, a2, ⟨a3, a4, a5, a6⟩⟩ : Mem)) (l := raws) i
      refine CW.region ?_
      refine r_fieldAddrO rfl Try.underlying66 rfl Try.sizeOf3 (by decide) (show _ = 0 from rfl) rfl ?_
      refine r_load rfl Try.isAgg3 rfl (by first | exact SH.cellB H (by (repeat first | exact At.here | apply At.there); done) (by rfl) | assumption) ?_
      refine r_fieldAddrO rfl Try.underlying66 rfl Try.sizeOf3 (by decide) (show _ = 1 from rfl) rfl ?_
      refine r_load rfl Try.isAgg3 rfl (by first | exact SH.cellB H (by (repeat first | exact At.here | apply At.there); done) (by rfl) | assumption) ?_
      refine r_fieldAddrO rfl Try.underlying66 rfl Try.sizeOf50 (by decide) (show _ = 2 from rfl) rfl ?_
      refine r_loadA rfl Try.isAgg50 Try.sizeOf50 rfl (by first | exact SH.partOf (n := 4) H (by (repeat first | exact At.here | apply At.there); done) (by simp only [Row.cells, List.drop_succ_cons, List.drop_zero, List.take_succ_cons, List.take_zero, Gr.L, Rep.L, Mem.L, Ans.L] <;> rfl) | exact SH.cells H (by (repeat first | exact At.here | apply At.there); done)) (by rfl) ?_
      refine r_buildQ rfl Try.underlying80 Try.zeroValue80 rfl (pl := [(0, 1), (1, 1), (2, 4)]) (by intro w; simp [go_sem]) (qs := [(0, [_]), (1, [_]), (2, [_, _, _, _])]) (cs := [_, _, _, _, _, _]) ⟨rfl, cells_one (by simp only [upd_get, ev, Nat.reduceEqDiff, ↓reduceIte] <;> rfl) (by first | rfl | exact Rs.oneC (by first | assumption | exact SH.rsR H (by (repeat first | exact At.here | apply At.there); done) | exact SH.rsO H (by (repeat first | exact At.here | apply At.there); done) | exact (Rs.nil : Rs Non _ _ _))), rfl, cells_one (by simp only [upd_get, ev, Nat.reduceEqDiff, ↓reduceIte] <;> rfl) (by first | rfl | exact Rs.oneC (by first | assumption | exact SH.rsR H (by (repeat first | exact At.here | apply At.there); done) | exact SH.rsO H (by (repeat first | exact At.here | apply At.there); done) | exact (Rs.nil : Rs Non _ _ _))), rfl, (by simp only [upd_get, ev, Nat.reduceEqDiff, ↓reduceIte, cellsL, agg, List.toList_toArray, Row.cells, Gr.L, Rep.L, Mem.L, Ans.L] <;> rfl), trivial⟩ rfl ?_
      refine s_alloc (cs := [.int .i64 0, .int .i64 0, .int .i64 0, .int .i64 0, .int .i64 0, .slice none 0 0]) H rfl Try.zeroValue80 rfl ?_
      clear H
      intro b3_7 w3_7 H
      try dsimp only [replC, List.cons_append, List.nil_append, List.append_nil, agg, cellsL, Value.cells, List.toList_toArray, List.set_cons_zero, List.set_cons_succ, spliceL, List.take_succ_cons, List.take_zero, List.drop_succ_cons, List.drop_zero, List.length_cons, List.length_nil, Nat.reduceAdd, Row.cells, Gr.L, Rep.L, Mem.L, Ans.L] at H
      refine s_storeA H Try.sizeOf80 rfl (by simp only [upd_get, ev, Nat.reduceEqDiff, ↓reduceIte] <;> rfl) (by simp only [cellsL, agg, List.toList_toArray, Row.cells, Gr.L, Rep.L, Mem.L, Ans.L] <;> rfl) (by rfl) (by first | rfl | assumption | exact Rs.oneC (by first | assumption | exact SH.rsR H (by (repeat first | exact At.here | apply At.there); done) | exact SH.rsO H (by (repeat first | exact At.here | apply At.there); done) | exact (Rs.nil : Rs Non _ _ _)) | (simp only [List.all_cons, List.all_nil, Bool.and_true, Bool.and_eq_true, Row.cells, Gr.L, Rep.L, Mem.L, Ans.L]; (repeat' constructor) <;> first | rfl | assumption | exact Rs.oneC (by first | assumption | exact SH.rsR H (by (repeat first | exact At.here | apply At.there); done) | exact SH.rsO H (by (repeat first | exact At.here | apply At.there); done) | exact (Rs.nil : Rs Non _ _ _)))) (by (repeat first | exact At.here | apply At.there); done) (by first | (simp; done) | decide | (show _ ≤ _; decide)) ?_
      clear H
      intro w3_8 H
      try dsimp only [replC, List.cons_append, List.nil_append, List.append_nil, agg, cellsL, Value.cells, List.toList_toArray, List.set_cons_zero, List.set_cons_succ, spliceL, List.take_succ_cons, List.take_zero, List.drop_succ_cons, List.drop_zero, List.length_cons, List.length_nil, Nat.reduceAdd, Row.cells, Gr.L, Rep.L, Mem.L, Ans.L] at H
      refine LW.nil ?_
      refine thenE_norm ?_
      refine cut (K := K6) [0, 3, 5] (fun σ => ?_)
      simp only [setL, keepE, upd_get, ev, Nat.reduceEqDiff, ↓reduceIte]
      refine h6 _ _ ?_; clear h6; try clear K6
      refine CW.seq (fun K7 h7 => ?_)
      refine CW.region ?_
      refine r_assign rfl ?_
      refine LW.nil ?_
      refine thenE_norm (h7 _ _ ?_); clear h7; try clear K7
      refine CW.seq (fun K8 h8 => ?_)
      refine CW.region ?_
      refine r_assign rfl ?_
      refine LW.nil ?_
      refine thenE_norm (h8 _ _ ?_); clear h8; try clear K8
      refine CW.seq (fun K9 h9 => ?_)
      refine CW.seq (fun K10 h10 => ?_)
      refine CW.region ?_
      refine r_assign rfl ?_
      refine LW.nil ?_
      refine thenE_norm (h10 _ _ ?_); clear h10; try clear K10
      refine CW.block ?_
      refine CW.loopR [0, 3, 5] [6, 7, 8] (fun m vs w' => ∃ (i : Nat) (u : Value) (g : Option Nat), vs = [u, .bool (insP Mem.client ⟨a1, a2, ⟨a3, a4, a5, a6⟩⟩ raws i).1, .int .i64 i] ∧ i ≤ raws.length ∧ m = raws.length - i ∧ SH Non Any w w' [.R (Old w) v raws, .B b0_0 66 [.int .i64 a1, .int .i64 a2, .int .i64 a3, .int .i64 a4, .int .i64 a5, a6], .B b3_7 80 [.int .i64 a1, .int .i64 a2, .int .i64 a3, .int .i64 a4, .int .i64 a5, a6], .O 80 u (insP Mem.client ⟨a1, a2, ⟨a3, a4, a5, a6⟩⟩ raws i).2 g]) (raws.length) ?_ ?_
      · exact ⟨0, .slice none 0 0, none, rfl, by omega, by omega, H.addO (α := Mem) 80⟩
      try clear H
      rintro n1 vs1 wL1 σ ⟨i, u, g, rfl, hi, rfl, H⟩
      simp only [setL, keepE, upd_get, ev, Nat.reduceEqDiff, ↓reduceIte]
      refine CW.seq (fun K11 h11 => ?_)
      refine CW.seq (fun K12 h12 => ?_)
      refine CW.region ?_
      refine r_move rfl ?_
      refine r_move rfl ?_
      first
        | refine r_lenV rfl Try.underlying81 (by simp only [upd_get, ev, Nat.reduceEqDiff, ↓reduceIte] <;> rfl) (by first | assumption | exact SH.rsR H (by (repeat first | exact At.here | apply At.there); done) | exact SH.rsO H (by (repeat first | exact At.here | apply At.there); done) | exact (Rs.nil : Rs Non _ _ _)) ?_
        | refine r_len rfl Try.underlying81 rfl ?_
      refine r_lss rfl rfl rfl ?_
      refine LW.nil ?_
      refine thenE_norm (h12 _ _ ?_); clear h12; try clear K12
      refine CW.cond rfl (fun hc2 => ?_) (fun hc2 => ?_)
      · try simp only [decide_eq_true_eq, decide_eq_false_iff_not, Bool.and_eq_true, Bool.or_eq_true, Bool.and_eq_false_iff, Bool.or_eq_false_iff, Bool.not_eq_true', Bool.not_eq_false', beq_iff_eq, bne_iff_ne, ne_eq, Decidable.not_not] at hc2
        refine CW.skip ?_
        refine thenE_norm (h11 _ _ ?_); clear h11; try clear K11
        refine CW.seq (fun K13 h13 => ?_)
        refine CW.block ?_
        refine CW.seq (fun K14 h14 => ?_)
        refine CW.seq (fun K15 h15 => ?_)
        obtain ⟨x, hx⟩ := get_of_lt (show i < raws.length by omega)
        obtain ⟨x1, x2, ⟨x3, x4, x5, x6⟩⟩ := x
        have hxo : oneC x6 = true := by have := hv.2 _ (List.mem_of_getElem? hx); simp [Row.cells, Mem.L] at this; exact this.2.2.2.2.2
        have hs := insP_succ (k := Mem.client) (m := (⟨a1, a2, ⟨a3, a4, a5, a6⟩⟩ : Mem)) hx
        have hl := hlen i
        generalize insP Mem.client ⟨a1, a2, ⟨a3, a4, a5, a6⟩⟩ raws i = S at *
        obtain ⟨sb, sl⟩ := S
        dsimp only at hs hl H ⊢
        refine CW.drawH [] H (List.Sublist.refl _) (by kernel_rfl) rfl ?_
        clear H
        intro w9d H
        refine DL.take (i := 0) [] rfl (by kernel_rfl) (by kernel_rfl) (by kernel_rfl) (by kernel_rfl) rfl rfl (fun u H => x_move ) H ?_
        refine DL.take (i := 1) [] rfl (by kernel_rfl) (by kernel_rfl) (by kernel_rfl) (by kernel_rfl) rfl rfl (fun u H => x_move ) H ?_
        refine DL.take (i := 2) [] rfl (by kernel_rfl) (by kernel_rfl) (by kernel_rfl) (by kernel_rfl) rfl rfl (fun u H => x_indexAddrV Try.underlying81 (by simp only [upd_get, ev, Nat.reduceEqDiff, ↓reduceIte] <;> rfl) rfl (by first | assumption | exact SH.rsR H (by (repeat first | exact At.here | apply At.there); done) | exact SH.rsO H (by (repeat first | exact At.here | apply At.there); done) | exact (Rs.nil : Rs Non _ _ _)) (by exact Try.sizeOf80) (by omega) (by omega)) H ?_
        refine DL.take (i := 3) [] rfl (by kernel_rfl) (by kernel_rfl) (by kernel_rfl) (by kernel_rfl) rfl rfl (fun u H => x_fieldAddrO Try.underlying80 rfl Try.sizeOf3 (by decide) (show _ + 0 = _ from rfl) rfl) H ?_
        refine DL.take (i := 4) [] rfl (by kernel_rfl) (by kernel_rfl) (by kernel_rfl) (by kernel_rfl) rfl rfl (fun u H => x_load Try.isAgg3 rfl (by first | exact Rs.cell (by first | assumption | exact SH.rsR H (by (repeat first | exact At.here | apply At.there); done) | exact SH.rsO H (by (repeat first | exact At.here | apply At.there); done) | exact (Rs.nil : Rs Non _ _ _)) (by assumption) (by rfl) | exact Rs.cell0 (by first | assumption | exact SH.rsR H (by (repeat first | exact At.here | apply At.there); done) | exact SH.rsO H (by (repeat first | exact At.here | apply At.there); done) | exact (Rs.nil : Rs Non _ _ _)) (by assumption) (by rfl) | assumption)) H ?_
        refine DL.take (i := 5) [] rfl (by kernel_rfl) (by kernel_rfl) (by kernel_rfl) (by kernel_rfl) rfl rfl (fun u H => x_fieldAddrO Try.underlying66 rfl Try.sizeOf3 (by decide) (show _ = 0 from rfl) rfl) H ?_
        refine DL.take (i := 6) [] rfl (by kernel_rfl) (by kernel_rfl) (by kernel_rfl) (by kernel_rfl) rfl rfl (fun u H => x_load Try.isAgg3 rfl (by first | exact SH.cellB H (by (repeat first | exact At.here | apply At.there); done) (by rfl) | assumption)) H ?_
        refine DL.take (i := 7) [] rfl (by kernel_rfl) (by kernel_rfl) (by kernel_rfl) (by kernel_rfl) rfl rfl (fun u H => x_eql rfl rfl) H ?_
        refine DL.done (by kernel_rfl) ?_
        refine thenE_norm ?_
        refine cut (K := K15) [0, 3, 5, 6, 7, 8, 44] (fun σ => ?_)
        simp only [setL, keepE, upd_get, ev, Nat.reduceEqDiff, ↓reduceIte]
        refine h15 _ _ ?_; clear h15; try clear K15
        refine CW.cond rfl (fun hc3 => ?_) (fun hc3 => ?_)
        · try simp only [decide_eq_true_eq, decide_eq_false_iff_not, Bool.and_eq_true, Bool.or_eq_true, Bool.and_eq_false_iff, Bool.or_eq_false_iff, Bool.not_eq_true', Bool.not_eq_false', beq_iff_eq, bne_iff_ne, ne_eq, Decidable.not_not] at hc3
          refine CW.seq (fun K16 h16 => ?_)
          refine CW.region ?_
          refine r_move rfl ?_
          refine r_loadA rfl Try.isAgg80 Try.sizeOf80 rfl (by first | exact SH.cells H (by (repeat first | exact At.here | apply At.there); done)) (by rfl) ?_
          refine r_buildSliceA (vs := [_]) rfl Try.underlying81 Try.sizeOf80 Try.zeroValue80 rfl rfl rfl rfl (by simp only [List.map_cons, List.map_nil, List.toList_toArray, numbered, Nat.reduceAdd, upd_get, ev, Nat.reduceEqDiff, ↓reduceIte] <;> rfl) rfl (by intro v hv; simp only [List.mem_cons, List.not_mem_nil, or_false] at hv; rcases hv with rfl <;> rfl) ?_
          intro b10_2 w10_2 hb10_2 hs10_2 hE10_2 hB10_2
          replace H := SH.call H (SH.fromB hE10_2 hb10_2 hs10_2 hB10_2)
          clear hb10_2 hs10_2 hE10_2 hB10_2
          try dsimp only [replC, List.cons_append, List.nil_append, List.append_nil, agg, cellsL, Value.cells, List.toList_toArray, List.set_cons_zero, List.set_cons_succ, spliceL, List.take_succ_cons, List.take_zero, List.drop_succ_cons, List.drop_zero, List.length_cons, List.length_nil, Nat.reduceAdd, Row.cells, Gr.L, Rep.L, Mem.L, Ans.L] at H
          replace H := SH.row (b := b10_2) (xs := ([⟨a1, a2, ⟨a3, a4, a5, a6⟩⟩] : List Mem)) (n := 1) (cap := 1) H (by (repeat first | exact At.here | apply At.there); done) (by simp only [flat, List.flatMap_cons, List.flatMap_nil, cellsL, agg, List.append_nil, List.cons_append, List.nil_append, List.toList_toArray, Row.cells, Gr.L, Rep.L, Mem.L, Ans.L] <;> rfl) (by intro x hx; first | rfl | (simp at hx; done) | (simp only [List.mem_cons, List.not_mem_nil, or_false] at hx; rcases hx with rfl <;> first | rfl | exact (by first | rfl | assumption | exact Rs.oneC (by first | assumption | exact SH.rsR H (by (repeat first | exact At.here | apply At.there); done) | exact SH.rsO H (by (repeat first | exact At.here | apply At.there); done) | exact (Rs.nil : Rs Non _ _ _)) | (simp only [List.all_cons, List.all_nil, Bool.and_true, Bool.and_eq_true, Row.cells, Gr.L, Rep.L, Mem.L, Ans.L]; (repeat' constructor) <;> first | rfl | assumption | exact Rs.oneC (by first | assumption | exact SH.rsR H (by (repeat first | exact At.here | apply At.there); done) | exact SH.rsO H (by (repeat first | exact At.here | apply At.there); done) | exact (Rs.nil : Rs Non _ _ _)))))) (by rfl) rfl (by decide)
          try dsimp only [replC, List.cons_append, List.nil_append, List.append_nil, agg, cellsL, Value.cells, List.toList_toArray, List.set_cons_zero, List.set_cons_succ, spliceL, List.take_succ_cons, List.take_zero, List.drop_succ_cons, List.drop_zero, List.length_cons, List.length_nil, Nat.reduceAdd, Row.cells, Gr.L, Rep.L, Mem.L, Ans.L] at H
          refine s_append H rfl Try.underlying81 Try.underlying81 Try.type80 rfl (by simp only [upd_get, ev, Nat.reduceEqDiff, ↓reduceIte] <;> rfl) (by simp only [upd_get, ev, Nat.reduceEqDiff, ↓reduceIte] <;> rfl) (by (repeat first | exact At.here | apply At.there); done) (by first | assumption | exact SH.rsR H (by (repeat first | exact At.here | apply At.there); done) | exact SH.rsO H (by (repeat first | exact At.here | apply At.there); done) | exact (Rs.nil : Rs Non _ _ _)) (by rfl) (by rfl) (by first | omega | (simp only [Try.t80, List.length_append, List.length_cons, List.length_nil, List.length_map, maxLen]; omega) | (simp [Try.t80, maxLen]; omega)) (by first | omega | (simp only [Try.t80, List.length_append, List.length_cons, List.length_nil, List.length_map, maxLen]; omega) | (simp [Try.t80, maxLen]; omega)) ?_
          clear H
          intro v10_3 w10_3 g10_3 H hN10_3
          try dsimp only [replC, List.cons_append, List.nil_append, List.append_nil] at H
          refine r_assign rfl ?_
          refine LW.nil ?_
          refine thenE_norm (h16 _ _ ?_); clear h16; try clear K16
          refine CW.seq (fun K17 h17 => ?_)
          refine CW.region ?_
          refine r_assign rfl ?_
          refine LW.nil ?_
          refine thenE_norm (h17 _ _ ?_); clear h17; try clear K17
          refine CW.exit (thenE_exit (blockE_hit ?_))
          refine thenE_norm (h13 _ _ ?_); clear h13; try clear K13
          refine CW.region ?_
          refine r_move rfl ?_
          refine r_add rfl rfl rfl (wr_i64 (by omega) (by omega)) ?_
          refine r_assign rfl ?_
          refine LW.nil ?_
          refine thenE_norm ⟨rfl, ?_⟩
          rw [insS, if_pos (show x1 = a1 by omega)] at hs
          exact ⟨raws.length - (i + 1), by omega, i + 1, _, _, by rw [hs]; rfl, by omega, rfl, by rw [hs]; exact SH.sel H [0, 1, 2, 3] (by decide) rfl⟩
        · try simp only [decide_eq_true_eq, decide_eq_false_iff_not, Bool.and_eq_true, Bool.or_eq_true, Bool.and_eq_false_iff, Bool.or_eq_false_iff, Bool.not_eq_true', Bool.not_eq_false', beq_iff_eq, bne_iff_ne, ne_eq, Decidable.not_not] at hc3
          refine CW.skip ?_
          refine thenE_norm (h14 _ _ ?_); clear h14; try clear K14
          refine CW.seq (fun K18 h18 => ?_)
          refine CW.seq (fun K19 h19 => ?_)
          refine CW.drawH [] H (List.Sublist.refl _) (by kernel_rfl) rfl ?_
          clear H
          intro w12d H
          refine DL.take (i := 0) [] rfl (by kernel_rfl) (by kernel_rfl) (by kernel_rfl) (by kernel_rfl) rfl rfl (fun u H => x_move ) H ?_
          refine DL.take (i := 1) [] rfl (by kernel_rfl) (by kernel_rfl) (by kernel_rfl) (by kernel_rfl) rfl rfl (fun u H => x_not rfl) H ?_
          refine DL.take (i := 2) [] rfl (by kernel_rfl) (by kernel_rfl) (by kernel_rfl) (by kernel_rfl) rfl rfl (fun u H => x_move ) H ?_
          refine DL.splitB (t := 51) rfl (fun hg12_2 => ?_) (fun hg12_2 => ?_)
          · have hg12_2P := hg12_2
            try simp only [decide_eq_true_eq, decide_eq_false_iff_not, Bool.and_eq_true, Bool.or_eq_true, Bool.and_eq_false_iff, Bool.or_eq_false_iff, Bool.not_eq_true', Bool.not_eq_false', beq_iff_eq, bne_iff_ne, ne_eq, Decidable.not_not] at hg12_2P
            refine DL.take (i := 3) [] rfl (by kernel_rfl) (by kernel_rfl) (by kernel_rfl) (by kernel_rfl) rfl (wantE rfl rfl hg12_2) (fun u H => x_move ) H ?_
            refine DL.take (i := 4) [] rfl (by kernel_rfl) (by kernel_rfl) (by kernel_rfl) (by kernel_rfl) rfl (wantE rfl rfl hg12_2) (fun u H => x_move ) H ?_
            refine DL.take (i := 5) [] rfl (by kernel_rfl) (by kernel_rfl) (by kernel_rfl) (by kernel_rfl) rfl (wantE rfl rfl hg12_2) (fun u H => x_indexAddrV Try.underlying81 (by simp only [upd_get, ev, Nat.reduceEqDiff, ↓reduceIte] <;> rfl) rfl (by first | assumption | exact SH.rsR H (by (repeat first | exact At.here | apply At.there); done) | exact SH.rsO H (by (repeat first | exact At.here | apply At.there); done) | exact (Rs.nil : Rs Non _ _ _)) (by exact Try.sizeOf80) (by omega) (by omega)) H ?_
            refine DL.take (i := 6) [] rfl (by kernel_rfl) (by kernel_rfl) (by kernel_rfl) (by kernel_rfl) rfl (wantE rfl rfl hg12_2) (fun u H => x_fieldAddrO Try.underlying80 rfl Try.sizeOf3 (by decide) (show _ + 0 = _ from rfl) rfl) H ?_
            refine DL.take (i := 7) [] rfl (by kernel_rfl) (by kernel_rfl) (by kernel_rfl) (by kernel_rfl) rfl (wantE rfl rfl hg12_2) (fun u H => x_load Try.isAgg3 rfl (by first | exact Rs.cell (by first | assumption | exact SH.rsR H (by (repeat first | exact At.here | apply At.there); done) | exact SH.rsO H (by (repeat first | exact At.here | apply At.there); done) | exact (Rs.nil : Rs Non _ _ _)) (by assumption) (by rfl) | exact Rs.cell0 (by first | assumption | exact SH.rsR H (by (repeat first | exact At.here | apply At.there); done) | exact SH.rsO H (by (repeat first | exact At.here | apply At.there); done) | exact (Rs.nil : Rs Non _ _ _)) (by assumption) (by rfl) | assumption)) H ?_
            refine DL.take (i := 8) [] rfl (by kernel_rfl) (by kernel_rfl) (by kernel_rfl) (by kernel_rfl) rfl (wantE rfl rfl hg12_2) (fun u H => x_fieldAddrO Try.underlying66 rfl Try.sizeOf3 (by decide) (show _ = 0 from rfl) rfl) H ?_
            refine DL.take (i := 9) [] rfl (by kernel_rfl) (by kernel_rfl) (by kernel_rfl) (by kernel_rfl) rfl (wantE rfl rfl hg12_2) (fun u H => x_load Try.isAgg3 rfl (by first | exact SH.cellB H (by (repeat first | exact At.here | apply At.there); done) (by rfl) | assumption)) H ?_
            refine DL.take (i := 10) [] rfl (by kernel_rfl) (by kernel_rfl) (by kernel_rfl) (by kernel_rfl) rfl (wantE rfl rfl hg12_2) (fun u H => x_gtr rfl rfl) H ?_
            refine DL.take (i := 11) [] rfl (by kernel_rfl) (by kernel_rfl) (by kernel_rfl) (by kernel_rfl) rfl rfl (fun u H => x_pickT rfl hg12_2) H ?_
            refine DL.done (by kernel_rfl) ?_
            refine thenE_norm ?_
            refine cut (K := K19) [0, 3, 5, 6, 7, 8, 60] (fun σ => ?_)
            simp only [setL, keepE, upd_get, ev, Nat.reduceEqDiff, ↓reduceIte]
            refine h19 _ _ ?_; clear h19; try clear K19
            refine CW.cond rfl (fun hc4 => ?_) (fun hc4 => ?_)
            · try simp only [decide_eq_true_eq, decide_eq_false_iff_not, Bool.and_eq_true, Bool.or_eq_true, Bool.and_eq_false_iff, Bool.or_eq_false_iff, Bool.not_eq_true', Bool.not_eq_false', beq_iff_eq, bne_iff_ne, ne_eq, Decidable.not_not] at hc4
              refine CW.seq (fun K20 h20 => ?_)
              refine CW.region ?_
              refine r_move rfl ?_
              refine r_loadA rfl Try.isAgg80 Try.sizeOf80 rfl (by first | exact SH.cells H (by (repeat first | exact At.here | apply At.there); done)) (by rfl) ?_
              refine r_buildSliceA (vs := [_]) rfl Try.underlying81 Try.sizeOf80 Try.zeroValue80 rfl rfl rfl rfl (by simp only [List.map_cons, List.map_nil, List.toList_toArray, numbered, Nat.reduceAdd, upd_get, ev, Nat.reduceEqDiff, ↓reduceIte] <;> rfl) rfl (by intro v hv; simp only [List.mem_cons, List.not_mem_nil, or_false] at hv; rcases hv with rfl <;> rfl) ?_
              intro b13_2 w13_2 hb13_2 hs13_2 hE13_2 hB13_2
              replace H := SH.call H (SH.fromB hE13_2 hb13_2 hs13_2 hB13_2)
              clear hb13_2 hs13_2 hE13_2 hB13_2
              try dsimp only [replC, List.cons_append, List.nil_append, List.append_nil, agg, cellsL, Value.cells, List.toList_toArray, List.set_cons_zero, List.set_cons_succ, spliceL, List.take_succ_cons, List.take_zero, List.drop_succ_cons, List.drop_zero, List.length_cons, List.length_nil, Nat.reduceAdd, Row.cells, Gr.L, Rep.L, Mem.L, Ans.L] at H
              replace H := SH.row (b := b13_2) (xs := ([⟨a1, a2, ⟨a3, a4, a5, a6⟩⟩] : List Mem)) (n := 1) (cap := 1) H (by (repeat first | exact At.here | apply At.there); done) (by simp only [flat, List.flatMap_cons, List.flatMap_nil, cellsL, agg, List.append_nil, List.cons_append, List.nil_append, List.toList_toArray, Row.cells, Gr.L, Rep.L, Mem.L, Ans.L] <;> rfl) (by intro x hx; first | rfl | (simp at hx; done) | (simp only [List.mem_cons, List.not_mem_nil, or_false] at hx; rcases hx with rfl <;> first | rfl | exact (by first | rfl | assumption | exact Rs.oneC (by first | assumption | exact SH.rsR H (by (repeat first | exact At.here | apply At.there); done) | exact SH.rsO H (by (repeat first | exact At.here | apply At.there); done) | exact (Rs.nil : Rs Non _ _ _)) | (simp only [List.all_cons, List.all_nil, Bool.and_true, Bool.and_eq_true, Row.cells, Gr.L, Rep.L, Mem.L, Ans.L]; (repeat' constructor) <;> first | rfl | assumption | exact Rs.oneC (by first | assumption | exact SH.rsR H (by (repeat first | exact At.here | apply At.there); done) | exact SH.rsO H (by (repeat first | exact At.here | apply At.there); done) | exact (Rs.nil : Rs Non _ _ _)))))) (by rfl) rfl (by decide)
              try dsimp only [replC, List.cons_append, List.nil_append, List.append_nil, agg, cellsL, Value.cells, List.toList_toArray, List.set_cons_zero, List.set_cons_succ, spliceL, List.take_succ_cons, List.take_zero, List.drop_succ_cons, List.drop_zero, List.length_cons, List.length_nil, Nat.reduceAdd, Row.cells, Gr.L, Rep.L, Mem.L, Ans.L] at H
              refine s_append H rfl Try.underlying81 Try.underlying81 Try.type80 rfl (by simp only [upd_get, ev, Nat.reduceEqDiff, ↓reduceIte] <;> rfl) (by simp only [upd_get, ev, Nat.reduceEqDiff, ↓reduceIte] <;> rfl) (by (repeat first | exact At.here | apply At.there); done) (by first | assumption | exact SH.rsR H (by (repeat first | exact At.here | apply At.there); done) | exact SH.rsO H (by (repeat first | exact At.here | apply At.there); done) | exact (Rs.nil : Rs Non _ _ _)) (by rfl) (by rfl) (by first | omega | (simp only [Try.t80, List.length_append, List.length_cons, List.length_nil, List.length_map, maxLen]; omega) | (simp [Try.t80, maxLen]; omega)) (by first | omega | (simp only [Try.t80, List.length_append, List.length_cons, List.length_nil, List.length_map, maxLen]; omega) | (simp [Try.t80, maxLen]; omega)) ?_
              clear H
              intro v13_3 w13_3 g13_3 H hN13_3
              try dsimp only [replC, List.cons_append, List.nil_append, List.append_nil] at H
              refine r_assign rfl ?_
              refine LW.nil ?_
              refine thenE_norm (h20 _ _ ?_); clear h20; try clear K20
              refine CW.region ?_
              refine r_assign rfl ?_
              refine LW.nil ?_
              refine thenE_norm (h18 _ _ ?_); clear h18; try clear K18
              refine CW.region ?_
              refine r_move rfl ?_
              refine r_move rfl ?_
              refine r_move rfl ?_
              refine r_indexAddrV rfl Try.underlying81 (by simp only [upd_get, ev, Nat.reduceEqDiff, ↓reduceIte] <;> rfl) rfl (by first | assumption | exact SH.rsR H (by (repeat first | exact At.here | apply At.there); done) | exact SH.rsO H (by (repeat first | exact At.here | apply At.there); done) | exact (Rs.nil : Rs Non _ _ _)) (by exact Try.sizeOf80) (by omega) (by omega) ?_
              refine r_loadA rfl Try.isAgg80 Try.sizeOf80 rfl (by first | exact Rs.cells0 (by first | assumption | exact SH.rsR H (by (repeat first | exact At.here | apply At.there); done) | exact SH.rsO H (by (repeat first | exact At.here | apply At.there); done) | exact (Rs.nil : Rs Non _ _ _)) (by assumption)) (by rfl) ?_
              refine r_buildSliceA (vs := [_]) rfl Try.underlying81 Try.sizeOf80 Try.zeroValue80 rfl rfl rfl rfl (by simp only [List.map_cons, List.map_nil, List.toList_toArray, numbered, Nat.reduceAdd, upd_get, ev, Nat.reduceEqDiff, ↓reduceIte] <;> rfl) rfl (by intro v hv; simp only [List.mem_cons, List.not_mem_nil, or_false] at hv; rcases hv with rfl <;> rfl) ?_
              intro b15_5 w15_5 hb15_5 hs15_5 hE15_5 hB15_5
              replace H := SH.call H (SH.fromB hE15_5 hb15_5 hs15_5 hB15_5)
              clear hb15_5 hs15_5 hE15_5 hB15_5
              try dsimp only [replC, List.cons_append, List.nil_append, List.append_nil, agg, cellsL, Value.cells, List.toList_toArray, List.set_cons_zero, List.set_cons_succ, spliceL, List.take_succ_cons, List.take_zero, List.drop_succ_cons, List.drop_zero, List.length_cons, List.length_nil, Nat.reduceAdd, Row.cells, Gr.L, Rep.L, Mem.L, Ans.L] at H
              replace H := SH.row (b := b15_5) (xs := ([⟨x1, x2, ⟨x3, x4, x5, x6⟩⟩] : List Mem)) (n := 1) (cap := 1) H (by (repeat first | exact At.here | apply At.there); done) (by simp only [flat, List.flatMap_cons, List.flatMap_nil, cellsL, agg, List.append_nil, List.cons_append, List.nil_append, List.toList_toArray, Row.cells, Gr.L, Rep.L, Mem.L, Ans.L] <;> rfl) (by intro x hx; first | rfl | (simp at hx; done) | (simp only [List.mem_cons, List.not_mem_nil, or_false] at hx; rcases hx with rfl <;> first | rfl | exact (by first | rfl | assumption | exact Rs.oneC (by first | assumption | exact SH.rsR H (by (repeat first | exact At.here | apply At.there); done) | exact SH.rsO H (by (repeat first | exact At.here | apply At.there); done) | exact (Rs.nil : Rs Non _ _ _)) | (simp only [List.all_cons, List.all_nil, Bool.and_true, Bool.and_eq_true, Row.cells, Gr.L, Rep.L, Mem.L, Ans.L]; (repeat' constructor) <;> first | rfl | assumption | exact Rs.oneC (by first | assumption | exact SH.rsR H (by (repeat first | exact At.here | apply At.there); done) | exact SH.rsO H (by (repeat first | exact At.here | apply At.there); done) | exact (Rs.nil : Rs Non _ _ _)))))) (by rfl) rfl (by decide)
              try dsimp only [replC, List.cons_append, List.nil_append, List.append_nil, agg, cellsL, Value.cells, List.toList_toArray, List.set_cons_zero, List.set_cons_succ, spliceL, List.take_succ_cons, List.take_zero, List.drop_succ_cons, List.drop_zero, List.length_cons, List.length_nil, Nat.reduceAdd, Row.cells, Gr.L, Rep.L, Mem.L, Ans.L] at H
              refine s_append H rfl Try.underlying81 Try.underlying81 Try.type80 rfl (by simp only [upd_get, ev, Nat.reduceEqDiff, ↓reduceIte] <;> rfl) (by simp only [upd_get, ev, Nat.reduceEqDiff, ↓reduceIte] <;> rfl) (by (repeat first | exact At.here | apply At.there); done) (by first | assumption | exact SH.rsR H (by (repeat first | exact At.here | apply At.there); done) | exact SH.rsO H (by (repeat first | exact At.here | apply At.there); done) | exact (Rs.nil : Rs Non _ _ _)) (by rfl) (by rfl) (by first | omega | (simp only [Try.t80, List.length_append, List.length_cons, List.length_nil, List.length_map, maxLen]; omega) | (simp [Try.t80, maxLen]; omega)) (by first | omega | (simp only [Try.t80, List.length_append, List.length_cons, List.length_nil, List.length_map, maxLen]; omega) | (simp [Try.t80, maxLen]; omega)) ?_
              clear H
              intro v15_6 w15_6 g15_6 H hN15_6
              try dsimp only [replC, List.cons_append, List.nil_append, List.append_nil] at H
              refine r_assign rfl ?_
              refine LW.nil ?_
              refine blockE_norm ?_
              refine thenE_norm (h13 _ _ ?_); clear h13; try clear K13
              refine CW.region ?_
              refine r_move rfl ?_
              refine r_add rfl rfl rfl (wr_i64 (by omega) (by omega)) ?_
              refine r_assign rfl ?_
              refine LW.nil ?_
              refine thenE_norm ⟨rfl, ?_⟩
              rw [insS, if_neg (show ¬ x1 = a1 by omega), if_pos ⟨by first | exact hg12_2P | simpa using hg12_2P, show a1 < x1 by omega⟩] at hs
              have e2 : ∀ q : Mem, sl ++ [(⟨a1, a2, ⟨a3, a4, a5, a6⟩⟩ : Mem), q] = sl ++ [⟨a1, a2, ⟨a3, a4, a5, a6⟩⟩] ++ [q] := fun q => by simp
              exact ⟨raws.length - (i + 1), by omega, i + 1, _, _, by rw [hs]; rfl, by omega, rfl, by rw [hs]; dsimp only; rw [e2]; exact SH.sel H [0, 1, 2, 3] (by decide) rfl⟩
            · try simp only [decide_eq_true_eq, decide_eq_false_iff_not, Bool.and_eq_true, Bool.or_eq_true, Bool.and_eq_false_iff, Bool.or_eq_false_iff, Bool.not_eq_true', Bool.not_eq_false', beq_iff_eq, bne_iff_ne, ne_eq, Decidable.not_not] at hc4
              refine CW.skip ?_
              refine thenE_norm (h18 _ _ ?_); clear h18; try clear K18
              refine CW.region ?_
              refine r_move rfl ?_
              refine r_move rfl ?_
              refine r_move rfl ?_
              refine r_indexAddrV rfl Try.underlying81 (by simp only [upd_get, ev, Nat.reduceEqDiff, ↓reduceIte] <;> rfl) rfl (by first | assumption | exact SH.rsR H (by (repeat first | exact At.here | apply At.there); done) | exact SH.rsO H (by (repeat first | exact At.here | apply At.there); done) | exact (Rs.nil : Rs Non _ _ _)) (by exact Try.sizeOf80) (by omega) (by omega) ?_
              refine r_loadA rfl Try.isAgg80 Try.sizeOf80 rfl (by first | exact Rs.cells0 (by first | assumption | exact SH.rsR H (by (repeat first | exact At.here | apply At.there); done) | exact SH.rsO H (by (repeat first | exact At.here | apply At.there); done) | exact (Rs.nil : Rs Non _ _ _)) (by assumption)) (by rfl) ?_
              refine r_buildSliceA (vs := [_]) rfl Try.underlying81 Try.sizeOf80 Try.zeroValue80 rfl rfl rfl rfl (by simp only [List.map_cons, List.map_nil, List.toList_toArray, numbered, Nat.reduceAdd, upd_get, ev, Nat.reduceEqDiff, ↓reduceIte] <;> rfl) rfl (by intro v hv; simp only [List.mem_cons, List.not_mem_nil, or_false] at hv; rcases hv with rfl <;> rfl) ?_
              intro b15_5 w15_5 hb15_5 hs15_5 hE15_5 hB15_5
              replace H := SH.call H (SH.fromB hE15_5 hb15_5 hs15_5 hB15_5)
              clear hb15_5 hs15_5 hE15_5 hB15_5
              try dsimp only [replC, List.cons_append, List.nil_append, List.append_nil, agg, cellsL, Value.cells, List.toList_toArray, List.set_cons_zero, List.set_cons_succ, spliceL, List.take_succ_cons, List.take_zero, List.drop_succ_cons, List.drop_zero, List.length_cons, List.length_nil, Nat.reduceAdd, Row.cells, Gr.L, Rep.L, Mem.L, Ans.L] at H
              replace H := SH.row (b := b15_5) (xs := ([⟨x1, x2, ⟨x3, x4, x5, x6⟩⟩] : List Mem)) (n := 1) (cap := 1) H (by (repeat first | exact At.here | apply At.there); done) (by simp only [flat, List.flatMap_cons, List.flatMap_nil, cellsL, agg, List.append_nil, List.cons_append, List.nil_append, List.toList_toArray, Row.cells, Gr.L, Rep.L, Mem.L, Ans.L] <;> rfl) (by intro x hx; first | rfl | (simp at hx; done) | (simp only [List.mem_cons, List.not_mem_nil, or_false] at hx; rcases hx with rfl <;> first | rfl | exact (by first | rfl | assumption | exact Rs.oneC (by first | assumption | exact SH.rsR H (by (repeat first | exact At.here | apply At.there); done) | exact SH.rsO H (by (repeat first | exact At.here | apply At.there); done) | exact (Rs.nil : Rs Non _ _ _)) | (simp only [List.all_cons, List.all_nil, Bool.and_true, Bool.and_eq_true, Row.cells, Gr.L, Rep.L, Mem.L, Ans.L]; (repeat' constructor) <;> first | rfl | assumption | exact Rs.oneC (by first | assumption | exact SH.rsR H (by (repeat first | exact At.here | apply At.there); done) | exact SH.rsO H (by (repeat first | exact At.here | apply At.there); done) | exact (Rs.nil : Rs Non _ _ _)))))) (by rfl) rfl (by decide)
              try dsimp only [replC, List.cons_append, List.nil_append, List.append_nil, agg, cellsL, Value.cells, List.toList_toArray, List.set_cons_zero, List.set_cons_succ, spliceL, List.take_succ_cons, List.take_zero, List.drop_succ_cons, List.drop_zero, List.length_cons, List.length_nil, Nat.reduceAdd, Row.cells, Gr.L, Rep.L, Mem.L, Ans.L] at H
              refine s_append H rfl Try.underlying81 Try.underlying81 Try.type80 rfl (by simp only [upd_get, ev, Nat.reduceEqDiff, ↓reduceIte] <;> rfl) (by simp only [upd_get, ev, Nat.reduceEqDiff, ↓reduceIte] <;> rfl) (by (repeat first | exact At.here | apply At.there); done) (by first | assumption | exact SH.rsR H (by (repeat first | exact At.here | apply At.there); done) | exact SH.rsO H (by (repeat first | exact At.here | apply At.there); done) | exact (Rs.nil : Rs Non _ _ _)) (by rfl) (by rfl) (by first | omega | (simp only [Try.t80, List.length_append, List.length_cons, List.length_nil, List.length_map, maxLen]; omega) | (simp [Try.t80, maxLen]; omega)) (by first | omega | (simp only [Try.t80, List.length_append, List.length_cons, List.length_nil, List.length_map, maxLen]; omega) | (simp [Try.t80, maxLen]; omega)) ?_
              clear H
              intro v15_6 w15_6 g15_6 H hN15_6
              try dsimp only [replC, List.cons_append, List.nil_append, List.append_nil] at H
              refine r_assign rfl ?_
              refine LW.nil ?_
              refine blockE_norm ?_
              refine thenE_norm (h13 _ _ ?_); clear h13; try clear K13
              refine CW.region ?_
              refine r_move rfl ?_
              refine r_add rfl rfl rfl (wr_i64 (by omega) (by omega)) ?_
              refine r_assign rfl ?_
              refine LW.nil ?_
              refine thenE_norm ⟨rfl, ?_⟩
              rw [insS, if_neg (show ¬ x1 = a1 by omega), if_neg (by rintro ⟨h1, h2⟩; dsimp only at h1 h2; omega)] at hs
              exact ⟨raws.length - (i + 1), by omega, i + 1, _, _, by rw [hs]; rfl, by omega, rfl, by rw [hs]; exact SH.sel H [0, 1, 2, 3] (by decide) rfl⟩
          · have hg12_2P := hg12_2
            try simp only [decide_eq_true_eq, decide_eq_false_iff_not, Bool.and_eq_true, Bool.or_eq_true, Bool.and_eq_false_iff, Bool.or_eq_false_iff, Bool.not_eq_true', Bool.not_eq_false', beq_iff_eq, bne_iff_ne, ne_eq, Decidable.not_not] at hg12_2P
            refine DL.skip (i := 3) [] rfl (by kernel_rfl) (by kernel_rfl) (by kernel_rfl) (by kernel_rfl) rfl (skipE rfl rfl hg12_2) H ?_
            refine DL.skip (i := 4) [] rfl (by kernel_rfl) (by kernel_rfl) (by kernel_rfl) (by kernel_rfl) rfl (skipE rfl rfl hg12_2) H ?_
            refine DL.skip (i := 5) [] rfl (by kernel_rfl) (by kernel_rfl) (by kernel_rfl) (by kernel_rfl) rfl (skipE rfl rfl hg12_2) H ?_
            refine DL.skip (i := 6) [] rfl (by kernel_rfl) (by kernel_rfl) (by kernel_rfl) (by kernel_rfl) rfl (skipE rfl rfl hg12_2) H ?_
            refine DL.skip (i := 7) [] rfl (by kernel_rfl) (by kernel_rfl) (by kernel_rfl) (by kernel_rfl) rfl (skipE rfl rfl hg12_2) H ?_
            refine DL.skip (i := 8) [] rfl (by kernel_rfl) (by kernel_rfl) (by kernel_rfl) (by kernel_rfl) rfl (skipE rfl rfl hg12_2) H ?_
            refine DL.skip (i := 9) [] rfl (by kernel_rfl) (by kernel_rfl) (by kernel_rfl) (by kernel_rfl) rfl (skipE rfl rfl hg12_2) H ?_
            refine DL.skip (i := 10) [] rfl (by kernel_rfl) (by kernel_rfl) (by kernel_rfl) (by kernel_rfl) rfl (skipE rfl rfl hg12_2) H ?_
            refine DL.take (i := 11) [] rfl (by kernel_rfl) (by kernel_rfl) (by kernel_rfl) (by kernel_rfl) rfl rfl (fun u H => x_pickF rfl hg12_2) H ?_
            refine DL.done (by kernel_rfl) ?_
            refine thenE_norm ?_
            refine cut (K := K19) [0, 3, 5, 6, 7, 8, 60] (fun σ => ?_)
            simp only [setL, keepE, upd_get, ev, Nat.reduceEqDiff, ↓reduceIte]
            refine h19 _ _ ?_; clear h19; try clear K19
            refine CW.condF rfl (by first | rfl | (simp only [decide_eq_true_eq, decide_eq_false_iff_not, Bool.and_eq_true, Bool.or_eq_true, Bool.and_eq_false_iff, Bool.or_eq_false_iff, Bool.not_eq_true', Bool.not_eq_false', beq_iff_eq, bne_iff_ne]; omega) | simp_all) ?_
            refine CW.skip ?_
            refine thenE_norm (h18 _ _ ?_); clear h18; try clear K18
            refine CW.region ?_
            refine r_move rfl ?_
            refine r_move rfl ?_
            refine r_move rfl ?_
            refine r_indexAddrV rfl Try.underlying81 (by simp only [upd_get, ev, Nat.reduceEqDiff, ↓reduceIte] <;> rfl) rfl (by first | assumption | exact SH.rsR H (by (repeat first | exact At.here | apply At.there); done) | exact SH.rsO H (by (repeat first | exact At.here | apply At.there); done) | exact (Rs.nil : Rs Non _ _ _)) (by exact Try.sizeOf80) (by omega) (by omega) ?_
            refine r_loadA rfl Try.isAgg80 Try.sizeOf80 rfl (by first | exact Rs.cells0 (by first | assumption | exact SH.rsR H (by (repeat first | exact At.here | apply At.there); done) | exact SH.rsO H (by (repeat first | exact At.here | apply At.there); done) | exact (Rs.nil : Rs Non _ _ _)) (by assumption)) (by rfl) ?_
            refine r_buildSliceA (vs := [_]) rfl Try.underlying81 Try.sizeOf80 Try.zeroValue80 rfl rfl rfl rfl (by simp only [List.map_cons, List.map_nil, List.toList_toArray, numbered, Nat.reduceAdd, upd_get, ev, Nat.reduceEqDiff, ↓reduceIte] <;> rfl) rfl (by intro v hv; simp only [List.mem_cons, List.not_mem_nil, or_false] at hv; rcases hv with rfl <;> rfl) ?_
            intro b15_5 w15_5 hb15_5 hs15_5 hE15_5 hB15_5
            replace H := SH.call H (SH.fromB hE15_5 hb15_5 hs15_5 hB15_5)
            clear hb15_5 hs15_5 hE15_5 hB15_5
            try dsimp only [replC, List.cons_append, List.nil_append, List.append_nil, agg, cellsL, Value.cells, List.toList_toArray, List.set_cons_zero, List.set_cons_succ, spliceL, List.take_succ_cons, List.take_zero, List.drop_succ_cons, List.drop_zero, List.length_cons, List.length_nil, Nat.reduceAdd, Row.cells, Gr.L, Rep.L, Mem.L, Ans.L] at H
            replace H := SH.row (b := b15_5) (xs := ([⟨x1, x2, ⟨x3, x4, x5, x6⟩⟩] : List Mem)) (n := 1) (cap := 1) H (by (repeat first | exact At.here | apply At.there); done) (by simp only [flat, List.flatMap_cons, List.flatMap_nil, cellsL, agg, List.append_nil, List.cons_append, List.nil_append, List.toList_toArray, Row.cells, Gr.L, Rep.L, Mem.L, Ans.L] <;> rfl) (by intro x hx; first | rfl | (simp at hx; done) | (simp only [List.mem_cons, List.not_mem_nil, or_false] at hx; rcases hx with rfl <;> first | rfl | exact (by first | rfl | assumption | exact Rs.oneC (by first | assumption | exact SH.rsR H (by (repeat first | exact At.here | apply At.there); done) | exact SH.rsO H (by (repeat first | exact At.here | apply At.there); done) | exact (Rs.nil : Rs Non _ _ _)) | (simp only [List.all_cons, List.all_nil, Bool.and_true, Bool.and_eq_true, Row.cells, Gr.L, Rep.L, Mem.L, Ans.L]; (repeat' constructor) <;> first | rfl | assumption | exact Rs.oneC (by first | assumption | exact SH.rsR H (by (repeat first | exact At.here | apply At.there); done) | exact SH.rsO H (by (repeat first | exact At.here | apply At.there); done) | exact (Rs.nil : Rs Non _ _ _)))))) (by rfl) rfl (by decide)
            try dsimp only [replC, List.cons_append, List.nil_append, List.append_nil, agg, cellsL, Value.cells, List.toList_toArray, List.set_cons_zero, List.set_cons_succ, spliceL, List.take_succ_cons, List.take_zero, List.drop_succ_cons, List.drop_zero, List.length_cons, List.length_nil, Nat.reduceAdd, Row.cells, Gr.L, Rep.L, Mem.L, Ans.L] at H
            refine s_append H rfl Try.underlying81 Try.underlying81 Try.type80 rfl (by simp only [upd_get, ev, Nat.reduceEqDiff, ↓reduceIte] <;> rfl) (by simp only [upd_get, ev, Nat.reduceEqDiff, ↓reduceIte] <;> rfl) (by (repeat first | exact At.here | apply At.there); done) (by first | assumption | exact SH.rsR H (by (repeat first | exact At.here | apply At.there); done) | exact SH.rsO H (by (repeat first | exact At.here | apply At.there); done) | exact (Rs.nil : Rs Non _ _ _)) (by rfl) (by rfl) (by first | omega | (simp only [Try.t80, List.length_append, List.length_cons, List.length_nil, List.length_map, maxLen]; omega) | (simp [Try.t80, maxLen]; omega)) (by first | omega | (simp only [Try.t80, List.length_append, List.length_cons, List.length_nil, List.length_map, maxLen]; omega) | (simp [Try.t80, maxLen]; omega)) ?_
            clear H
            intro v15_6 w15_6 g15_6 H hN15_6
            try dsimp only [replC, List.cons_append, List.nil_append, List.append_nil] at H
            refine r_assign rfl ?_
            refine LW.nil ?_
            refine blockE_norm ?_
            refine thenE_norm (h13 _ _ ?_); clear h13; try clear K13
            refine CW.region ?_
            refine r_move rfl ?_
            refine r_add rfl rfl rfl (wr_i64 (by omega) (by omega)) ?_
            refine r_assign rfl ?_
            refine LW.nil ?_
            refine thenE_norm ⟨rfl, ?_⟩
            rw [insS, if_neg (show ¬ x1 = a1 by omega), if_neg (by rintro ⟨h1, h2⟩; dsimp only at h1; simp_all)] at hs
            exact ⟨raws.length - (i + 1), by omega, i + 1, _, _, by rw [hs]; rfl, by omega, rfl, by rw [hs]; exact SH.sel H [0, 1, 2, 3] (by decide) rfl⟩
      · try simp only [decide_eq_true_eq, decide_eq_false_iff_not, Bool.and_eq_true, Bool.or_eq_true, Bool.and_eq_false_iff, Bool.or_eq_false_iff, Bool.not_eq_true', Bool.not_eq_false', beq_iff_eq, bne_iff_ne, ne_eq, Decidable.not_not] at hc2
        refine CW.exit (thenE_exit (thenE_exit (blockE_hit ?_)))
        refine thenE_norm (h9 _ _ ?_); clear h9; try clear K9
        refine CW.seq (fun K21 h21 => ?_)
        refine CW.seq (fun K22 h22 => ?_)
        obtain rfl : i = raws.length := by omega
        have hend := insP_end (k := Mem.client) (m := (⟨a1, a2, ⟨a3, a4, a5, a6⟩⟩ : Mem)) hupr
        have hl := hlen raws.length
        generalize insP Mem.client ⟨a1, a2, ⟨a3, a4, a5, a6⟩⟩ raws raws.length = S at *
        obtain ⟨sb, sl⟩ := S
        dsimp only at hend hl H ⊢
        refine CW.region ?_
        refine r_move rfl ?_
        refine r_not rfl rfl ?_
        refine LW.nil ?_
        refine thenE_norm (h22 _ _ ?_); clear h22; try clear K22
        refine CW.cond rfl (fun hc5 => ?_) (fun hc5 => ?_)
        · try simp only [decide_eq_true_eq, decide_eq_false_iff_not, Bool.and_eq_true, Bool.or_eq_true, Bool.and_eq_false_iff, Bool.or_eq_false_iff, Bool.not_eq_true', Bool.not_eq_false', beq_iff_eq, bne_iff_ne, ne_eq, Decidable.not_not] at hc5
          refine CW.region ?_
          refine r_move rfl ?_
          refine r_loadA rfl Try.isAgg80 Try.sizeOf80 rfl (by first | exact SH.cells H (by (repeat first | exact At.here | apply At.there); done)) (by rfl) ?_
          refine r_buildSliceA (vs := [_]) rfl Try.underlying81 Try.sizeOf80 Try.zeroValue80 rfl rfl rfl rfl (by simp only [List.map_cons, List.map_nil, List.toList_toArray, numbered, Nat.reduceAdd, upd_get, ev, Nat.reduceEqDiff, ↓reduceIte] <;> rfl) rfl (by intro v hv; simp only [List.mem_cons, List.not_mem_nil, or_false] at hv; rcases hv with rfl <;> rfl) ?_
          intro b17_2 w17_2 hb17_2 hs17_2 hE17_2 hB17_2
          replace H := SH.call H (SH.fromB hE17_2 hb17_2 hs17_2 hB17_2)
          clear hb17_2 hs17_2 hE17_2 hB17_2
          try dsimp only [replC, List.cons_append, List.nil_append, List.append_nil, agg, cellsL, Value.cells, List.toList_toArray, List.set_cons_zero, List.set_cons_succ, spliceL, List.take_succ_cons, List.take_zero, List.drop_succ_cons, List.drop_zero, List.length_cons, List.length_nil, Nat.reduceAdd, Row.cells, Gr.L, Rep.L, Mem.L, Ans.L] at H
          replace H := SH.row (b := b17_2) (xs := ([⟨a1, a2, ⟨a3, a4, a5, a6⟩⟩] : List Mem)) (n := 1) (cap := 1) H (by (repeat first | exact At.here | apply At.there); done) (by simp only [flat, List.flatMap_cons, List.flatMap_nil, cellsL, agg, List.append_nil, List.cons_append, List.nil_append, List.toList_toArray, Row.cells, Gr.L, Rep.L, Mem.L, Ans.L] <;> rfl) (by intro x hx; first | rfl | (simp at hx; done) | (simp only [List.mem_cons, List.not_mem_nil, or_false] at hx; rcases hx with rfl <;> first | rfl | exact (by first | rfl | assumption | exact Rs.oneC (by first | assumption | exact SH.rsR H (by (repeat first | exact At.here | apply At.there); done) | exact SH.rsO H (by (repeat first | exact At.here | apply At.there); done) | exact (Rs.nil : Rs Non _ _ _)) | (simp only [List.all_cons, List.all_nil, Bool.and_true, Bool.and_eq_true, Row.cells, Gr.L, Rep.L, Mem.L, Ans.L]; (repeat' constructor) <;> first | rfl | assumption | exact Rs.oneC (by first | assumption | exact SH.rsR H (by (repeat first | exact At.here | apply At.there); done) | exact SH.rsO H (by (repeat first | exact At.here | apply At.there); done) | exact (Rs.nil : Rs Non _ _ _)))))) (by rfl) rfl (by decide)
          try dsimp only [replC, List.cons_append, List.nil_append, List.append_nil, agg, cellsL, Value.cells, List.toList_toArray, List.set_cons_zero, List.set_cons_succ, spliceL, List.take_succ_cons, List.take_zero, List.drop_succ_cons, List.drop_zero, List.length_cons, List.length_nil, Nat.reduceAdd, Row.cells, Gr.L, Rep.L, Mem.L, Ans.L] at H
          first
            | refine s_append H rfl Try.underlying81 Try.underlying81 Try.type80 rfl (by simp only [upd_get, ev, Nat.reduceEqDiff, ↓reduceIte] <;> rfl) (by simp only [upd_get, ev, Nat.reduceEqDiff, ↓reduceIte] <;> rfl) (by (repeat first | exact At.here | apply At.there); done) (by first | assumption | exact SH.rsR H (by (repeat first | exact At.here | apply At.there); done) | exact SH.rsO H (by (repeat first | exact At.here | apply At.there); done) | exact (Rs.nil : Rs Non _ _ _)) (by rfl) (by rfl) (by first | omega | (simp only [Try.t80, List.length_append, List.length_cons, List.length_nil, List.length_map, maxLen]; omega) | (simp [Try.t80, maxLen]; omega)) (by first | omega | (simp only [Try.t80, List.length_append, List.length_cons, List.length_nil, List.length_map, maxLen]; omega) | (simp [Try.t80, maxLen]; omega)) ?_
            | refine s_appendNil H rfl Try.underlying81 Try.underlying81 Try.type80 rfl rfl (by simp only [upd_get, ev, Nat.reduceEqDiff, ↓reduceIte] <;> rfl) (by first | assumption | exact SH.rsR H (by (repeat first | exact At.here | apply At.there); done) | exact SH.rsO H (by (repeat first | exact At.here | apply At.there); done) | exact (Rs.nil : Rs Non _ _ _)) (by rfl) (by rfl) (by first | omega | (simp only [Try.t80, List.length_append, List.length_cons, List.length_nil, List.length_map, maxLen]; omega) | (simp [Try.t80, maxLen]; omega)) ?_
          clear H
          intro v17_3 w17_3 g17_3 H hN17_3
          try dsimp only [replC, List.cons_append, List.nil_append, List.append_nil] at H
          refine r_assign rfl ?_
          refine LW.nil ?_
          refine thenE_norm ?_
          refine cut (K := K21) [6] (fun σ => ?_)
          simp only [setL, keepE, upd_get, ev, Nat.reduceEqDiff, ↓reduceIte]
          refine h21 _ _ ?_; clear h21; try clear K21
          refine CW.seq (fun K23 h23 => ?_)
          refine CW.region ?_
          refine r_move rfl ?_
          refine r_assign rfl ?_
          refine LW.nil ?_
          refine thenE_norm (h23 _ _ ?_); clear h23; try clear K23
          refine CW.ret (ret1 Try.results65 (by simp only [upd_get, ev, Nat.reduceEqDiff, ↓reduceIte]; rfl) ?_)
          rw [if_neg (by first | (rw [hc5]; exact Bool.false_ne_true) | simpa using hc5)] at hend
          rw [hkeep, ← hend]
          exact ⟨_, _, rfl, SH.give H (by repeat first | exact List.Sublist.refl _ | exact List.nil_sublist _ | apply List.Sublist.cons_cons | apply List.Sublist.cons) ⟨trivial, trivial⟩⟩
        · try simp only [decide_eq_true_eq, decide_eq_false_iff_not, Bool.and_eq_true, Bool.or_eq_true, Bool.and_eq_false_iff, Bool.or_eq_false_iff, Bool.not_eq_true', Bool.not_eq_false', beq_iff_eq, bne_iff_ne, ne_eq, Decidable.not_not] at hc5
          refine CW.skip ?_
          refine thenE_norm (h21 _ _ ?_); clear h21; try clear K21
          refine CW.seq (fun K24 h24 => ?_)
          refine CW.region ?_
          refine r_move rfl ?_
          refine r_assign rfl ?_
          refine LW.nil ?_
          refine thenE_norm ?_
          refine cut (K := K24) [4] (fun σ => ?_)
          simp only [setL, keepE, upd_get, ev, Nat.reduceEqDiff, ↓reduceIte]
          refine h24 _ _ ?_; clear h24; try clear K24
          refine CW.ret (ret1 Try.results65 (by simp only [upd_get, ev, Nat.reduceEqDiff, ↓reduceIte]; rfl) ?_)
          rw [if_pos (by first | exact hc5 | simpa using hc5)] at hend
          rw [hkeep, ← hend]
          exact ⟨_, _, rfl, SH.give H (by repeat first | exact List.Sublist.refl _ | exact List.nil_sublist _ | apply List.Sublist.cons_cons | apply List.Sublist.cons) ⟨trivial, trivial⟩⟩
end Go.Proofs.Ytlfbofnfhhddbaa
