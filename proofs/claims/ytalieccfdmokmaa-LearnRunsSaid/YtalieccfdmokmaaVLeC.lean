/-
  The walks of layer 15's functions, the second part: a vote is heard.
-/
import Derived.Test.YtalieccfdmokmaaVLeB
namespace Go.Proofs.Ytalieccfdmokmaa
set_option linter.unusedSimpArgs false
set_option linter.unusedVariables false
set_option maxRecDepth 20000
open Go.V Go.RowKit Go.ChangeShapes Go.WideShapes

theorem HrA.rf {l : List TG} {F : Nat → Prop} {w : World} (h : HrA l F w) {t : TG} (ht : t ∈ l) : Rs F w t.x.frm t.m.frm ∧ Rs F w t.x.batch.reqs t.m.rs := by
  have h1 := h.1.1 (.O 3 t.x.frm t.m.frm t.gf) (List.mem_flatMap.2 ⟨t, ht, by simp [TG.ch]⟩)
  have h2 := h.1.1 (.O 32 t.x.batch.reqs t.m.rs t.gq) (List.mem_flatMap.2 ⟨t, ht, by simp [TG.ch]⟩)
  have k1 : Ow 3 w t.x.frm t.m.frm t.gf := h1.holds
  have k2 : Ow 32 w t.x.batch.reqs t.m.rs t.gq := h2.holds
  exact ⟨k1.rs.mono fun b _ hb => (h1.imm b hb).elim id (fun q => q.elim), k2.rs.mono fun b _ hb => (h2.imm b hb).elim id (fun q => q.elim)⟩
theorem insF_same {t : Tm} {i : Int} (h : UpK idK t.frm) {y : Int} (hs : t.frm[atK idK t.frm i]? = some y) (hc : idK y = i) : putK idK t.frm i = t.frm := by
  rw [putK_in (m := i) h hs hc]
  have : y = i := hc
  subst this
  have hs' : t.frm[atK idK t.frm (idK y)]? = some y := hs
  apply List.ext_getElem?
  intro q
  rw [List.getElem?_set]
  by_cases hq : atK idK t.frm (idK y) = q
  · subst hq
    rw [if_pos rfl, if_pos (lt_of_get hs')]; exact hs'.symm
  · rw [if_neg hq]
set_option maxHeartbeats 16000000 in
theorem Hear_c {F2 : Nat → Prop} {p : Nat} {s : LnS} {FN : Nat → Prop} (i b sl : Int) (x : Bat) {rs : List Rq} (w : World) (hN : LrnA p s FN w) (hb : Rs F2 w x.reqs rs) (hd : ∀ b, F2 b → ¬ FN b) (hsm : smallQ rs) :
    Calls Try.prog 23 #[.pointer (some ⟨p, 0, none⟩), .int .i64 i, .int .i64 b, .int .i64 sl, agg x] w fun e w' => ∃ FN', e = .returned (.int .i64 (hearM s i b sl x rs).2) ∧ SH FN Non w w' [.P FN' (LrnA p (hearM s i b sl x rs).1 FN')] := by
  obtain ⟨hok, bm, l, FH, h1, h2, hA⟩ := hN
  obtain ⟨x1, x2, ⟨x3, x4⟩, x5, x6⟩ := x
  dsimp only at hb
  have H := SH.argU (SH.obj (G := Any) hA) hb hd
  have ho6 : oneC x6 = true := Rs.oneC hb
  obtain ⟨s1, s2, s3⟩ := s
  dsimp only at H h1
  subst h1
  have hok' := hear_ok (i := i) (b := b) (sl := sl) (x := ⟨x1, x2, ⟨x3, x4⟩, x5, x6⟩) (rs := rs) hok
  have hn0 : 1 ≤ s1 := hok.n0
  have hn1 : s1 ≤ 7 := hok.n1
  have hd0 : 0 ≤ s2 := hok.d0
  have hd1 : s2 ≤ 2305843009213693952 := hok.d1
  refine calls_of_CW Try.func23 rfl Try.ntmps23 (Nat.le_of_ble_eq_true rfl) ?_
  simp only [argE, argFrom, Nat.reduceAdd]
  refine CW.seq (fun K1 h1 => ?_)
  refine CW.region ?_
  refine s_box H rfl (by simp only [upd_get, ev, Nat.reduceEqDiff, ↓reduceIte] <;> rfl) rfl ?_
  clear H
  intro b0_0 w0_0 H
  try dsimp only [replC, List.cons_append, List.nil_append, List.append_nil, agg, cellsL, Value.cells, List.toList_toArray, List.set_cons_zero, List.set_cons_succ, spliceL, List.take_succ_cons, List.take_zero, List.drop_succ_cons, List.drop_zero, List.length_cons, List.length_nil, Nat.reduceAdd, Row.cells, Cm.L, Rq.L, Tp.L, Bat.L, Ty.L] at H
  refine r_assign rfl ?_
  refine LW.nil ?_
  refine thenE_norm (h1 _ _ ?_); clear h1; try clear K1
  refine CW.seq (fun K2 h2 => ?_)
  refine CW.seq (fun K3 h3 => ?_)
  refine CW.region ?_
  refine r_move rfl ?_
  refine r_eqlP rfl Try.underlying42 rfl rfl ?_
  refine LW.nil ?_
  refine thenE_norm (h3 _ _ ?_); clear h3; try clear K3
  refine CW.condF rfl (by first | rfl | (simp only [decide_eq_true_eq, decide_eq_false_iff_not, Bool.and_eq_true, Bool.or_eq_true, Bool.and_eq_false_iff, Bool.or_eq_false_iff, Bool.not_eq_true', Bool.not_eq_false', beq_iff_eq, bne_iff_ne]; omega) | simp_all) ?_
  refine CW.skip ?_
  refine thenE_norm (h2 _ _ ?_); clear h2; try clear K2
  refine CW.seq (fun K4 h4 => ?_)
  refine CW.seq (fun K5 h5 => ?_)
  refine CW.region ?_
  refine r_move rfl ?_
  refine r_lss rfl rfl rfl ?_
  refine r_move rfl ?_
  refine' LW.grpOr (n := 7) (ts := [0, 1, 2, 3, 9, 27, 32, 36, 40]) (d := 26) (tj := 19) rfl (fun hg3_3 => ?_) (fun hg3_3 => ?_) (fun σ => ?_)
  rotate_left
  · simp only [List.take_succ_cons, List.take_zero]
    have hg3_3P := hg3_3
    try simp only [decide_eq_true_eq, decide_eq_false_iff_not, Bool.and_eq_true, Bool.or_eq_true, Bool.and_eq_false_iff, Bool.or_eq_false_iff, Bool.not_eq_true', Bool.not_eq_false', beq_iff_eq, bne_iff_ne] at hg3_3P
    refine LW.want rfl rfl hg3_3 ?_
    refine r_move rfl ?_
    refine LW.want rfl rfl hg3_3 ?_
    refine r_move rfl ?_
    refine LW.want rfl rfl hg3_3 ?_
    refine r_nilCheck rfl rfl ?_
    refine LW.want rfl rfl hg3_3 ?_
    refine r_fieldAddrO rfl Try.underlying104 rfl Try.sizeOf3 (by decide) (show _ = 0 from rfl) rfl ?_
    refine LW.want rfl rfl hg3_3 ?_
    refine r_load rfl Try.isAgg3 rfl (by first | exact SH.cellB H (by (repeat first | exact At.here | apply At.there); done) (by rfl) | exact SH.cellI H (by (repeat first | exact At.here | apply At.there); done) (by rfl) | assumption) ?_
    refine LW.want rfl rfl hg3_3 ?_
    refine r_geq rfl rfl rfl ?_
    refine r_pickF rfl rfl hg3_3 ?_
    refine LW.nil (thenE_norm ⟨rfl, rfl, rfl⟩)
  · simp only [List.take_succ_cons, List.take_zero]
    refine LW.skip rfl (fun _ e => by cases e; decide) rfl hg3_3 ?_
    refine LW.skip rfl (fun _ e => by cases e; decide) rfl hg3_3 ?_
    refine LW.skip rfl (fun _ e => by cases e; decide) rfl hg3_3 ?_
    refine LW.skip rfl (fun _ e => by cases e; decide) rfl hg3_3 ?_
    refine LW.skip rfl (fun _ e => by cases e; decide) rfl hg3_3 ?_
    refine LW.skip rfl (fun _ e => by cases e; decide) rfl hg3_3 ?_
    refine r_pickT rfl rfl hg3_3 ?_
    refine LW.nil (thenE_norm ⟨rfl, rfl, rfl⟩)
  simp only [setL, keepE, upd_get, ev, Nat.reduceEqDiff, ↓reduceIte]; simp only [List.drop_succ_cons, List.drop_zero]
  refine r_move rfl ?_
  refine' LW.grpOr (n := 4) (ts := [0, 1, 2, 3, 9, 32, 36, 40]) (d := 31) (tj := 27) rfl (fun hg3_11 => ?_) (fun hg3_11 => ?_) (fun σ => ?_)
  rotate_left
  · simp only [List.take_succ_cons, List.take_zero]
    have hg3_11P := hg3_11
    try simp only [decide_eq_true_eq, decide_eq_false_iff_not, Bool.and_eq_true, Bool.or_eq_true, Bool.and_eq_false_iff, Bool.or_eq_false_iff, Bool.not_eq_true', Bool.not_eq_false', beq_iff_eq, bne_iff_ne] at hg3_11P
    refine LW.want rfl rfl hg3_11 ?_
    refine r_move rfl ?_
    refine LW.want rfl rfl hg3_11 ?_
    refine r_call rfl Try.call64 (by simp only [List.map_cons, List.map_nil, List.map_toArray, List.toList_toArray, upd_get, ev, Nat.reduceEqDiff, ↓reduceIte] <;> rfl) (isNumL_c _ _) ?_
    rintro _ _ ⟨rfl, rfl⟩
    refine ⟨_, rfl, ?_⟩
    refine LW.want rfl rfl hg3_11 ?_
    refine r_not rfl rfl ?_
    refine r_pickF rfl rfl hg3_11 ?_
    refine LW.nil (thenE_norm ⟨rfl, rfl, rfl⟩)
  · simp only [List.take_succ_cons, List.take_zero]
    refine LW.skip rfl (fun _ e => by cases e; decide) rfl hg3_11 ?_
    refine LW.skip rfl (fun _ e => by cases e; decide) rfl hg3_11 ?_
    refine LW.skip rfl (fun _ e => by cases e; decide) rfl hg3_11 ?_
    refine r_pickT rfl rfl hg3_11 ?_
    refine LW.nil (thenE_norm ⟨rfl, rfl, rfl⟩)
  simp only [setL, keepE, upd_get, ev, Nat.reduceEqDiff, ↓reduceIte]; simp only [List.drop_succ_cons, List.drop_zero]
  refine r_move rfl ?_
  refine' LW.grpOr (n := 3) (ts := [0, 1, 2, 3, 9, 36, 40]) (d := 35) (tj := 32) rfl (fun hg3_16 => ?_) (fun hg3_16 => ?_) (fun σ => ?_)
  rotate_left
  · simp only [List.take_succ_cons, List.take_zero]
    have hg3_16P := hg3_16
    try simp only [decide_eq_true_eq, decide_eq_false_iff_not, Bool.and_eq_true, Bool.or_eq_true, Bool.and_eq_false_iff, Bool.or_eq_false_iff, Bool.not_eq_true', Bool.not_eq_false', beq_iff_eq, bne_iff_ne] at hg3_16P
    refine LW.want rfl rfl hg3_16 ?_
    refine r_move rfl ?_
    refine LW.want rfl rfl hg3_16 ?_
    refine r_lss rfl rfl rfl ?_
    refine r_pickF rfl rfl hg3_16 ?_
    refine LW.nil (thenE_norm ⟨rfl, rfl, rfl⟩)
  · simp only [List.take_succ_cons, List.take_zero]
    refine LW.skip rfl (fun _ e => by cases e; decide) rfl hg3_16 ?_
    refine LW.skip rfl (fun _ e => by cases e; decide) rfl hg3_16 ?_
    refine r_pickT rfl rfl hg3_16 ?_
    refine LW.nil (thenE_norm ⟨rfl, rfl, rfl⟩)
  simp only [setL, keepE, upd_get, ev, Nat.reduceEqDiff, ↓reduceIte]; simp only [List.drop_succ_cons, List.drop_zero]
  refine r_move rfl ?_
  refine' LW.grpOr (n := 3) (ts := [0, 1, 2, 3, 9, 40]) (d := 39) (tj := 36) rfl (fun hg3_20 => ?_) (fun hg3_20 => ?_) (fun σ => ?_)
  rotate_left
  · simp only [List.take_succ_cons, List.take_zero]
    have hg3_20P := hg3_20
    try simp only [decide_eq_true_eq, decide_eq_false_iff_not, Bool.and_eq_true, Bool.or_eq_true, Bool.and_eq_false_iff, Bool.or_eq_false_iff, Bool.not_eq_true', Bool.not_eq_false', beq_iff_eq, bne_iff_ne] at hg3_20P
    refine LW.want rfl rfl hg3_20 ?_
    refine r_move rfl ?_
    refine LW.want rfl rfl hg3_20 ?_
    refine r_gtr rfl rfl rfl ?_
    refine r_pickF rfl rfl hg3_20 ?_
    refine LW.nil (thenE_norm ⟨rfl, rfl, rfl⟩)
  · simp only [List.take_succ_cons, List.take_zero]
    refine LW.skip rfl (fun _ e => by cases e; decide) rfl hg3_20 ?_
    refine LW.skip rfl (fun _ e => by cases e; decide) rfl hg3_20 ?_
    refine r_pickT rfl rfl hg3_20 ?_
    refine LW.nil (thenE_norm ⟨rfl, rfl, rfl⟩)
  simp only [setL, keepE, upd_get, ev, Nat.reduceEqDiff, ↓reduceIte]; simp only [List.drop_succ_cons, List.drop_zero]
  refine r_move rfl ?_
  refine LW.splitB (t := 40) rfl (fun hg3_24 => ?_) (fun hg3_24 => ?_)
  · have hg3_24P := hg3_24
    try simp only [decide_eq_true_eq, decide_eq_false_iff_not, Bool.and_eq_true, Bool.or_eq_true, Bool.and_eq_false_iff, Bool.or_eq_false_iff, Bool.not_eq_true', Bool.not_eq_false', beq_iff_eq, bne_iff_ne] at hg3_24P
    refine LW.skip rfl (fun _ e => by cases e; decide) rfl hg3_24 ?_
    refine LW.skip rfl (fun _ e => by cases e; decide) rfl hg3_24 ?_
    refine LW.skip rfl (fun _ e => by cases e; decide) rfl hg3_24 ?_
    refine r_pickT rfl rfl hg3_24 ?_
    refine LW.nil ?_
    refine thenE_norm (h5 _ _ ?_); clear h5; try clear K5
    refine CW.condT rfl (by first | rfl | (simp only [decide_eq_true_eq, decide_eq_false_iff_not, Bool.and_eq_true, Bool.or_eq_true, Bool.and_eq_false_iff, Bool.or_eq_false_iff, Bool.not_eq_true', Bool.not_eq_false', beq_iff_eq, bne_iff_ne]; omega) | simp_all) ?_
    refine CW.seq (fun K6 h6 => ?_)
    refine CW.region ?_
    refine r_assign rfl ?_
    refine LW.nil ?_
    refine thenE_norm (h6 _ _ ?_); clear h6; try clear K6
    refine CW.ret (thenE_ret (ret1 Try.results23 (by simp only [upd_get, ev, Nat.reduceEqDiff, ↓reduceIte]; rfl) ?_))
    have hno : ¬ askL ⟨s1, s2, msT l⟩ i b sl ⟨x1, x2, ⟨x3, x4⟩, x5, x6⟩ rs := by
      rintro ⟨⟨k1, k2⟩, k3, ⟨k4, k5⟩, -⟩
      dsimp only at k1 k2
      rcases hg3_24P with (((h | h) | h) | h) | h
      · omega
      · omega
      · rw [k3] at h; cases h
      · omega
      · omega
    rw [hear_no hno]
    obtain ⟨FN', K⟩ := LrnA.mk hok rfl h2 (SH.sel H [0, 1, 2] (by decide) (by rfl))
    exact ⟨_, rfl, K⟩
  · have hg3_24P := hg3_24
    try simp only [decide_eq_true_eq, decide_eq_false_iff_not, Bool.and_eq_true, Bool.or_eq_true, Bool.and_eq_false_iff, Bool.or_eq_false_iff, Bool.not_eq_true', Bool.not_eq_false', beq_iff_eq, bne_iff_ne] at hg3_24P
    refine LW.want rfl rfl hg3_24 ?_
    refine r_loadA rfl Try.isAgg27 Try.sizeOf27 rfl (by first | exact SH.cells H (by (repeat first | exact At.here | apply At.there); done)) (by rfl) ?_
    refine LW.want rfl rfl hg3_24 ?_
    refine r_call rfl Try.call19 (by simp only [List.map_cons, List.map_nil, List.map_toArray, List.toList_toArray, upd_get, ev, Nat.reduceEqDiff, ↓reduceIte] <;> rfl) (MayBat_c ⟨_, _, ⟨_, _⟩, _, _⟩ _ (SH.rsR H (i := 3) rfl) hsm) ?_
    rintro _ w3_25 ⟨rfl, X⟩
    refine ⟨_, rfl, ?_⟩
    replace H := SH.same H X
    clear X
    refine LW.want rfl rfl hg3_24 ?_
    refine r_not rfl rfl ?_
    refine r_pickF rfl rfl hg3_24 ?_
    refine LW.nil ?_
    refine thenE_norm (h5 _ _ ?_); clear h5; try clear K5
    refine CW.cond rfl (fun hc2 => ?_) (fun hc2 => ?_)
    · try simp only [decide_eq_true_eq, decide_eq_false_iff_not, Bool.and_eq_true, Bool.or_eq_true, Bool.and_eq_false_iff, Bool.or_eq_false_iff, Bool.not_eq_true', Bool.not_eq_false', beq_iff_eq, bne_iff_ne, ne_eq, Decidable.not_not] at hc2
      refine CW.seq (fun K7 h7 => ?_)
      refine CW.region ?_
      refine r_assign rfl ?_
      refine LW.nil ?_
      refine thenE_norm (h7 _ _ ?_); clear h7; try clear K7
      refine CW.ret (thenE_ret (ret1 Try.results23 (by simp only [upd_get, ev, Nat.reduceEqDiff, ↓reduceIte]; rfl) ?_))
      have hno : ¬ askL ⟨s1, s2, msT l⟩ i b sl ⟨x1, x2, ⟨x3, x4⟩, x5, x6⟩ rs := fun q => Bool.false_ne_true (hc2.symm.trans q.2.2.2)
      rw [hear_no hno]
      obtain ⟨FN', K⟩ := LrnA.mk hok rfl h2 (SH.sel H [0, 1, 2] (by decide) (by rfl))
      exact ⟨_, rfl, K⟩
    · try simp only [decide_eq_true_eq, decide_eq_false_iff_not, Bool.and_eq_true, Bool.or_eq_true, Bool.and_eq_false_iff, Bool.or_eq_false_iff, Bool.not_eq_true', Bool.not_eq_false', beq_iff_eq, bne_iff_ne, ne_eq, Decidable.not_not] at hc2
      have hgo : askL ⟨s1, s2, msT l⟩ i b sl ⟨x1, x2, ⟨x3, x4⟩, x5, x6⟩ rs := ⟨⟨by omega, show i < s1 by omega⟩, hg3_24P.1.1.2, ⟨by omega, by omega⟩, hc2⟩
      have hl3 := mayBat_len hc2
      refine CW.skip ?_
      refine thenE_norm (h4 _ _ ?_); clear h4; try clear K4
      refine CW.seq (fun K8 h8 => ?_)
      rcases hlk : lookM (kvT l) sl with _ | y
      · have hlm := look_kv hlk
        refine CW.region ?_
        refine r_move rfl ?_
        refine r_nilCheck rfl rfl ?_
        refine r_fieldAddrO rfl Try.underlying104 rfl Try.sizeOf102 (by decide) (show _ = 2 from rfl) rfl ?_
        refine r_load rfl Try.isAgg102 rfl (by first | exact SH.cellB H (by (repeat first | exact At.here | apply At.there); done) (by rfl) | exact SH.cellI H (by (repeat first | exact At.here | apply At.there); done) (by rfl) | assumption) ?_
        refine r_move rfl ?_
        refine r_lookup2N rfl Try.underlying102 Try.underlying3 Try.zeroValue107 rfl rfl (SH.prop H (i := 1) rfl) hlk ?_
        refine r_move rfl ?_
        refine r_extract rfl (by simp only [upd_get, ev, Nat.reduceEqDiff, ↓reduceIte] <;> rfl) (by simp only [List.getElem?_toArray, List.getElem?_cons_zero, List.getElem?_cons_succ] <;> rfl) ?_
        refine r_extract rfl (by simp only [upd_get, ev, Nat.reduceEqDiff, ↓reduceIte] <;> rfl) (by simp only [List.getElem?_toArray, List.getElem?_cons_zero, List.getElem?_cons_succ] <;> rfl) ?_
        refine s_alloc (cs := [.int .i64 0, .bool false, .int .i64 0, .int .i64 0, .int .i64 0, .int .i64 0, .slice none 0 0, .slice none 0 0]) H rfl Try.zeroValue107 rfl ?_
        clear H
        intro b5_9 w5_9 H
        try dsimp only [replC, List.cons_append, List.nil_append, List.append_nil, agg, cellsL, Value.cells, List.toList_toArray, List.set_cons_zero, List.set_cons_succ, spliceL, List.take_succ_cons, List.take_zero, List.drop_succ_cons, List.drop_zero, List.length_cons, List.length_nil, Nat.reduceAdd, Row.cells, Cm.L, Rq.L, Tp.L, Bat.L, Ty.L] at H
        refine s_storeA H Try.sizeOf107 rfl (by simp only [upd_get, ev, Nat.reduceEqDiff, ↓reduceIte] <;> rfl) (by simp only [cellsL, agg, List.toList_toArray, Row.cells, Cm.L, Rq.L, Tp.L, Bat.L, Ty.L] <;> rfl) (by rfl) (by first | rfl | assumption | exact Rs.oneC (by first | assumption | exact SH.rsR H (by (repeat first | exact At.here | apply At.there); done) | exact SH.rsO H (by (repeat first | exact At.here | apply At.there); done) | exact (Rs.nil : Rs Non _ _ _)) | (simp only [List.all_cons, List.all_nil, Bool.and_true, Bool.and_eq_true, Row.cells, Cm.L, Rq.L, Tp.L, Bat.L, Ty.L]; (repeat' constructor) <;> first | rfl | assumption | exact Rs.oneC (by first | assumption | exact SH.rsR H (by (repeat first | exact At.here | apply At.there); done) | exact SH.rsO H (by (repeat first | exact At.here | apply At.there); done) | exact (Rs.nil : Rs Non _ _ _)))) (by (repeat first | exact At.here | apply At.there); done) (by first | (simp; done) | decide | (show _ ≤ _; decide)) ?_
        clear H
        intro w5_10 H
        try dsimp only [replC, List.cons_append, List.nil_append, List.append_nil, agg, cellsL, Value.cells, List.toList_toArray, List.set_cons_zero, List.set_cons_succ, spliceL, List.take_succ_cons, List.take_zero, List.drop_succ_cons, List.drop_zero, List.length_cons, List.length_nil, Nat.reduceAdd, Row.cells, Cm.L, Rq.L, Tp.L, Bat.L, Ty.L] at H
        refine r_assign rfl ?_
        refine LW.nil ?_
        refine thenE_norm ?_
        refine cut (K := K8) [0, 1, 2, 3, 9, 11, 12] (fun σ => ?_)
        simp only [setL, keepE, upd_get, ev, Nat.reduceEqDiff, ↓reduceIte]
        refine h8 _ _ ?_; clear h8; try clear K8
        refine CW.seqJ [0, 1, 3, 11] [] (fun vs w' => ∃ (t : TG) (l1 l2 : List TG) (F' : Nat → Prop), vs = [] ∧ (t.k = sl ∧ t.ok ∧ t.m = baseT (lookM (msT l) sl) b ⟨x1, x2, ⟨x3, x4⟩, x5, x6⟩ rs ∧ ¬ oldT (lookM (msT l) sl) b = true ∧ (∀ u ∈ l1 ++ l2, u.ok) ∧ (∀ y, setM (kvT l) sl y = kvT l1 ++ (sl, y) :: kvT l2) ∧ (∀ m, setM (msT l) sl m = msT l1 ++ (sl, m) :: msT l2) ∧ ¬ (sl ≤ (⟨s1, s2, msT l⟩ : LnS).done ∨ chosenT s1 (lookM (msT l) sl) = true) ∧ ¬ 9 < sl - s2) ∧
  SH FN Any w w' [.B p 104 [.int .i64 s1, .int .i64 s2, .map (some bm)], .P (fun k => k = bm) (Mp bm (kvT l)), .P F' (HrA (l1 ++ l2) F'), .O 32 t.x.batch.reqs t.m.rs t.gq, .O 3 t.x.frm t.m.frm t.gf,
    .B b5_9 107 [.int .i64 t.x.ballot, .bool t.x.batch.fill, .int .i64 t.x.batch.view, .int .i64 t.x.batch.tip.view, .int .i64 t.x.batch.tip.slot, .int .i64 t.x.batch.time, t.x.batch.reqs, t.x.frm]]) ?_ ?_
        · refine CW.block ?_
          refine CW.seq (fun K10 h10 => ?_)
          refine CW.region ?_
          refine r_move rfl ?_
          refine r_move rfl ?_
          refine r_nilCheck rfl rfl ?_
          refine r_fieldAddrO rfl Try.underlying104 rfl Try.sizeOf3 (by decide) (show _ = 1 from rfl) rfl ?_
          refine r_load rfl Try.isAgg3 rfl (by first | exact SH.cellB H (by (repeat first | exact At.here | apply At.there); done) (by rfl) | exact SH.cellI H (by (repeat first | exact At.here | apply At.there); done) (by rfl) | assumption) ?_
          refine r_leq rfl rfl rfl ?_
          refine r_move rfl ?_
          refine LW.splitB (t := 61) rfl (fun hg6_7 => ?_) (fun hg6_7 => ?_)
          · have hg6_7P := hg6_7
            try simp only [decide_eq_true_eq, decide_eq_false_iff_not, Bool.and_eq_true, Bool.or_eq_true, Bool.and_eq_false_iff, Bool.or_eq_false_iff, Bool.not_eq_true', Bool.not_eq_false', beq_iff_eq, bne_iff_ne] at hg6_7P
            refine LW.skip rfl (fun _ e => by cases e; decide) rfl hg6_7 ?_
            refine LW.skip rfl (fun _ e => by cases e; decide) rfl hg6_7 ?_
            refine LW.skip rfl (fun _ e => by cases e; decide) rfl hg6_7 ?_
            refine r_pickT rfl rfl hg6_7 ?_
            refine r_assign rfl ?_
            refine LW.nil ?_
            refine thenE_norm ?_
            refine cut (K := K10) [0, 1, 2, 3, 9, 11, 12, 54] (fun σ => ?_)
            simp only [setL, keepE, upd_get, ev, Nat.reduceEqDiff, ↓reduceIte]
            refine h10 _ _ ?_; clear h10; try clear K10
            refine CW.condT rfl (by first | rfl | (simp only [decide_eq_true_eq, decide_eq_false_iff_not, Bool.and_eq_true, Bool.or_eq_true, Bool.and_eq_false_iff, Bool.or_eq_false_iff, Bool.not_eq_true', Bool.not_eq_false', beq_iff_eq, bne_iff_ne]; omega) | simp_all) ?_
            refine CW.seq (fun K11 h11 => ?_)
            refine CW.region ?_
            refine r_assign rfl ?_
            refine LW.nil ?_
            refine thenE_norm (h11 _ _ ?_); clear h11; try clear K11
            refine CW.ret (blockE_ret (thenE_ret (ret1 Try.results23 (by simp only [upd_get, ev, Nat.reduceEqDiff, ↓reduceIte]; rfl) ?_)))
            rw [hear_done hgo (.inl (by first | assumption | omega))]
            obtain ⟨FN', K⟩ := LrnA.mk hok rfl h2 (SH.sel H [0, 1, 2] (by decide) (by rfl))
            exact ⟨_, rfl, K⟩
          · have hg6_7P := hg6_7
            try simp only [decide_eq_true_eq, decide_eq_false_iff_not, Bool.and_eq_true, Bool.or_eq_true, Bool.and_eq_false_iff, Bool.or_eq_false_iff, Bool.not_eq_true', Bool.not_eq_false', beq_iff_eq, bne_iff_ne] at hg6_7P
            refine LW.want rfl rfl hg6_7 ?_
            refine r_move rfl ?_
            refine LW.want rfl rfl hg6_7 ?_
            refine r_loadA rfl Try.isAgg107 Try.sizeOf107 rfl (by first | exact SH.cells H (by (repeat first | exact At.here | apply At.there); done)) (by rfl) ?_
            refine LW.want rfl rfl hg6_7 ?_
            refine r_call rfl Try.call65 (by simp only [List.map_cons, List.map_nil, List.map_toArray, List.toList_toArray, upd_get, ev, Nat.reduceEqDiff, ↓reduceIte] <;> rfl) (chosen_c (F := Non) (fs := []) ⟨0, ⟨false, 0, ⟨0, 0⟩, 0, .slice none 0 0⟩, .slice none 0 0⟩ _ (SH.blk H (i := 0) rfl) ⟨hn0, hn1⟩ Rs.nil) ?_
            rintro _ w6_9 ⟨rfl, X⟩
            refine ⟨_, rfl, ?_⟩
            replace H := SH.same H X
            clear X
            refine r_pickF rfl rfl hg6_7 ?_
            refine r_assign rfl ?_
            refine LW.nil ?_
            refine thenE_norm ?_
            refine cut (K := K10) [0, 1, 2, 3, 9, 11, 12, 54] (fun σ => ?_)
            simp only [setL, keepE, upd_get, ev, Nat.reduceEqDiff, ↓reduceIte]
            refine h10 _ _ ?_; clear h10; try clear K10
            refine CW.cond rfl (fun hc3 => ?_) (fun hc3 => ?_)
            · try simp only [decide_eq_true_eq, decide_eq_false_iff_not, Bool.and_eq_true, Bool.or_eq_true, Bool.and_eq_false_iff, Bool.or_eq_false_iff, Bool.not_eq_true', Bool.not_eq_false', beq_iff_eq, bne_iff_ne, ne_eq, Decidable.not_not] at hc3
              refine CW.seq (fun K12 h12 => ?_)
              refine CW.region ?_
              refine r_assign rfl ?_
              refine LW.nil ?_
              refine thenE_norm (h12 _ _ ?_); clear h12; try clear K12
              refine CW.ret (blockE_ret (thenE_ret (ret1 Try.results23 (by simp only [upd_get, ev, Nat.reduceEqDiff, ↓reduceIte]; rfl) ?_)))
              rw [hear_done hgo (.inr (by
                dsimp only
                rw [hlm]
                first
                  | exact decide_eq_true hc3
                  | (exfalso; revert hc3; simp; omega)))]
              obtain ⟨FN', K⟩ := LrnA.mk hok rfl h2 (SH.sel H [0, 1, 2] (by decide) (by rfl))
              exact ⟨_, rfl, K⟩
            · try simp only [decide_eq_true_eq, decide_eq_false_iff_not, Bool.and_eq_true, Bool.or_eq_true, Bool.and_eq_false_iff, Bool.or_eq_false_iff, Bool.not_eq_true', Bool.not_eq_false', beq_iff_eq, bne_iff_ne, ne_eq, Decidable.not_not] at hc3
              have hk : ¬ (sl ≤ (⟨s1, s2, msT l⟩ : LnS).done ∨ chosenT s1 (lookM (msT l) sl) = true) := by
                rintro (q | q)
                · dsimp only at q; omega
                · rw [hlm] at q
                  first
                    | cases q; done
                    | exact hc3 (of_decide_eq_true q)
              refine CW.seq (fun K13 h13 => ?_)
              refine CW.region ?_
              refine r_move rfl ?_
              refine r_move rfl ?_
              refine r_nilCheck rfl rfl ?_
              refine r_fieldAddrO rfl Try.underlying104 rfl Try.sizeOf3 (by decide) (show _ = 1 from rfl) rfl ?_
              refine r_load rfl Try.isAgg3 rfl (by first | exact SH.cellB H (by (repeat first | exact At.here | apply At.there); done) (by rfl) | exact SH.cellI H (by (repeat first | exact At.here | apply At.there); done) (by rfl) | assumption) ?_
              refine r_sub rfl rfl rfl (wr_i64 (by omega) (by omega)) ?_
              refine r_gtr rfl rfl rfl ?_
              refine r_assign rfl ?_
              refine LW.nil ?_
              refine thenE_norm ?_
              refine cut (K := K13) [0, 1, 2, 3, 9, 11, 12, 66] (fun σ => ?_)
              simp only [setL, keepE, upd_get, ev, Nat.reduceEqDiff, ↓reduceIte]
              refine h13 _ _ ?_; clear h13; try clear K13
              refine CW.cond rfl (fun hc4 => ?_) (fun hc4 => ?_)
              · try simp only [decide_eq_true_eq, decide_eq_false_iff_not, Bool.and_eq_true, Bool.or_eq_true, Bool.and_eq_false_iff, Bool.or_eq_false_iff, Bool.not_eq_true', Bool.not_eq_false', beq_iff_eq, bne_iff_ne, ne_eq, Decidable.not_not] at hc4
                refine CW.seq (fun K14 h14 => ?_)
                refine CW.region ?_
                refine r_assign rfl ?_
                refine LW.nil ?_
                refine thenE_norm (h14 _ _ ?_); clear h14; try clear K14
                refine CW.ret (blockE_ret (thenE_ret (ret1 Try.results23 (by simp only [upd_get, ev, Nat.reduceEqDiff, ↓reduceIte]; rfl) ?_)))
                rw [hear_full hgo hk (show 9 < sl - s2 by omega)]
                obtain ⟨FN', K⟩ := LrnA.mk hok rfl h2 (SH.sel H [0, 1, 2] (by decide) (by rfl))
                exact ⟨_, rfl, K⟩
              · try simp only [decide_eq_true_eq, decide_eq_false_iff_not, Bool.and_eq_true, Bool.or_eq_true, Bool.and_eq_false_iff, Bool.or_eq_false_iff, Bool.not_eq_true', Bool.not_eq_false', beq_iff_eq, bne_iff_ne, ne_eq, Decidable.not_not] at hc4
                refine CW.seq (fun K15 h15 => ?_)
                refine CW.region ?_
                refine r_move rfl ?_
                refine r_move rfl ?_
                refine LW.known (t := 76) (c := false) rfl (by first | rfl | (simp only [decide_eq_true_eq, decide_eq_false_iff_not, Bool.and_eq_true, Bool.or_eq_true, Bool.and_eq_false_iff, Bool.or_eq_false_iff, Bool.not_eq_true', Bool.not_eq_false', beq_iff_eq, bne_iff_ne]; omega) | simp_all) (fun hg10_2 => ?_)
                refine LW.skip rfl (fun _ e => by cases e; decide) rfl hg10_2 ?_
                refine LW.skip rfl (fun _ e => by cases e; decide) rfl hg10_2 ?_
                refine LW.skip rfl (fun _ e => by cases e; decide) rfl hg10_2 ?_
                refine LW.skip rfl (fun _ e => by cases e; decide) rfl hg10_2 ?_
                refine r_pickF rfl rfl hg10_2 ?_
                refine r_assign rfl ?_
                refine LW.nil ?_
                refine thenE_norm (h15 _ _ ?_); clear h15; try clear K15
                refine CW.condF rfl (by first | rfl | (simp only [decide_eq_true_eq, decide_eq_false_iff_not, Bool.and_eq_true, Bool.or_eq_true, Bool.and_eq_false_iff, Bool.or_eq_false_iff, Bool.not_eq_true', Bool.not_eq_false', beq_iff_eq, bne_iff_ne]; omega) | simp_all) ?_
                refine CW.seq (fun K16 h16 => ?_)
                refine CW.region ?_
                refine r_move rfl ?_
                refine r_not rfl rfl ?_
                refine r_move rfl ?_
                refine LW.known (t := 85) (c := true) rfl (by first | rfl | (simp only [decide_eq_true_eq, decide_eq_false_iff_not, Bool.and_eq_true, Bool.or_eq_true, Bool.and_eq_false_iff, Bool.or_eq_false_iff, Bool.not_eq_true', Bool.not_eq_false', beq_iff_eq, bne_iff_ne]; omega) | simp_all) (fun hg12_3 => ?_)
                refine LW.skip rfl (fun _ e => by cases e; decide) rfl hg12_3 ?_
                refine LW.skip rfl (fun _ e => by cases e; decide) rfl hg12_3 ?_
                refine LW.skip rfl (fun _ e => by cases e; decide) rfl hg12_3 ?_
                refine LW.skip rfl (fun _ e => by cases e; decide) rfl hg12_3 ?_
                refine r_pickT rfl rfl hg12_3 ?_
                refine r_assign rfl ?_
                refine LW.nil ?_
                refine thenE_norm ?_
                refine cut (K := K16) [0, 1, 2, 3, 9, 11, 82] (fun σ => ?_)
                simp only [setL, keepE, upd_get, ev, Nat.reduceEqDiff, ↓reduceIte]
                refine h16 _ _ ?_; clear h16; try clear K16
                refine CW.condT rfl (by first | rfl | (simp only [decide_eq_true_eq, decide_eq_false_iff_not, Bool.and_eq_true, Bool.or_eq_true, Bool.and_eq_false_iff, Bool.or_eq_false_iff, Bool.not_eq_true', Bool.not_eq_false', beq_iff_eq, bne_iff_ne]; omega) | simp_all) ?_
                refine CW.seq (fun K17 h17 => ?_)
                refine CW.region ?_
                refine r_fieldAddrO rfl Try.underlying27 rfl Try.sizeOf25 (by decide) (show _ = 5 from rfl) rfl ?_
                refine r_load rfl Try.isAgg25 rfl (by first | exact SH.cellB H (by (repeat first | exact At.here | apply At.there); done) (by rfl) | assumption) ?_
                refine r_call rfl Try.call66 (by simp only [List.map_cons, List.map_nil, List.map_toArray, List.toList_toArray, upd_get, ev, Nat.reduceEqDiff, ↓reduceIte] <;> rfl) (CloneQL_c _ (by first | assumption | exact SH.rsR H (by (repeat first | exact At.here | apply At.there); done) | exact SH.rsO H (by (repeat first | exact At.here | apply At.there); done) | exact (Rs.nil : Rs Non _ _ _)) (by first | omega | (simp only [List.length_append, List.length_cons, List.length_nil]; omega) | (simp; omega))) ?_
                rintro _ w13_2 ⟨v13_2, g13_2, rfl, K⟩
                refine ⟨_, rfl, ?_⟩
                replace H := SH.call H K
                clear K
                try dsimp only [replC, List.cons_append, List.nil_append, List.append_nil] at H
                refine r_fieldAddrO rfl Try.underlying27 rfl Try.sizeOf25 (by decide) (show _ = 5 from rfl) rfl ?_
                refine s_store H Try.sizeOf25 rfl (by simp only [upd_get, ev, Nat.reduceEqDiff, ↓reduceIte] <;> rfl) (by first | rfl | assumption | exact Rs.oneC (by first | assumption | exact SH.rsR H (by (repeat first | exact At.here | apply At.there); done) | exact SH.rsO H (by (repeat first | exact At.here | apply At.there); done) | exact (Rs.nil : Rs Non _ _ _)) | (simp only [List.all_cons, List.all_nil, Bool.and_true, Bool.and_eq_true, Row.cells, Cm.L, Rq.L, Tp.L, Bat.L, Ty.L]; (repeat' constructor) <;> first | rfl | assumption | exact Rs.oneC (by first | assumption | exact SH.rsR H (by (repeat first | exact At.here | apply At.there); done) | exact SH.rsO H (by (repeat first | exact At.here | apply At.there); done) | exact (Rs.nil : Rs Non _ _ _)))) (by (repeat first | exact At.here | apply At.there); done) (by first | (simp; done) | decide | omega) ?_
                clear H
                intro w13_4 H
                try dsimp only [replC, List.cons_append, List.nil_append, List.append_nil, agg, cellsL, Value.cells, List.toList_toArray, List.set_cons_zero, List.set_cons_succ, spliceL, List.take_succ_cons, List.take_zero, List.drop_succ_cons, List.drop_zero, List.length_cons, List.length_nil, Nat.reduceAdd, Row.cells, Cm.L, Rq.L, Tp.L, Bat.L, Ty.L] at H
                refine LW.nil ?_
                refine thenE_norm (h17 _ _ ?_); clear h17; try clear K17
                refine CW.region ?_
                refine r_move rfl ?_
                refine r_loadA rfl Try.isAgg27 Try.sizeOf27 rfl (by first | exact SH.cells H (by (repeat first | exact At.here | apply At.there); done)) (by rfl) ?_
                refine r_buildQ rfl Try.underlying107 Try.zeroValue107 rfl (pl := [(0, 1), (1, 6), (7, 1)]) (by intro w; simp [go_sem]) (qs := [(0, [_]), (1, [_, _, _, _, _, _])]) (cs := [_, _, _, _, _, _, _, .slice none 0 0]) ⟨rfl, cells_one (by simp only [upd_get, ev, Nat.reduceEqDiff, ↓reduceIte] <;> rfl) (by first | rfl | exact Rs.oneC (by first | assumption | exact SH.rsR H (by (repeat first | exact At.here | apply At.there); done) | exact SH.rsO H (by (repeat first | exact At.here | apply At.there); done) | exact (Rs.nil : Rs Non _ _ _))), rfl, (by simp only [upd_get, ev, Nat.reduceEqDiff, ↓reduceIte, cellsL, agg, List.toList_toArray, Row.cells, Cm.L, Rq.L, Tp.L, Bat.L, Ty.L] <;> rfl), trivial⟩ rfl ?_
                refine s_storeA H Try.sizeOf107 rfl (by simp only [upd_get, ev, Nat.reduceEqDiff, ↓reduceIte] <;> rfl) (by simp only [cellsL, agg, List.toList_toArray, Row.cells, Cm.L, Rq.L, Tp.L, Bat.L, Ty.L] <;> rfl) (by rfl) (by first | rfl | assumption | exact Rs.oneC (by first | assumption | exact SH.rsR H (by (repeat first | exact At.here | apply At.there); done) | exact SH.rsO H (by (repeat first | exact At.here | apply At.there); done) | exact (Rs.nil : Rs Non _ _ _)) | (simp only [List.all_cons, List.all_nil, Bool.and_true, Bool.and_eq_true, Row.cells, Cm.L, Rq.L, Tp.L, Bat.L, Ty.L]; (repeat' constructor) <;> first | rfl | assumption | exact Rs.oneC (by first | assumption | exact SH.rsR H (by (repeat first | exact At.here | apply At.there); done) | exact SH.rsO H (by (repeat first | exact At.here | apply At.there); done) | exact (Rs.nil : Rs Non _ _ _)))) (by (repeat first | exact At.here | apply At.there); done) (by first | (simp; done) | decide | (show _ ≤ _; decide)) ?_
                clear H
                intro w14_3 H
                try dsimp only [replC, List.cons_append, List.nil_append, List.append_nil, agg, cellsL, Value.cells, List.toList_toArray, List.set_cons_zero, List.set_cons_succ, spliceL, List.take_succ_cons, List.take_zero, List.drop_succ_cons, List.drop_zero, List.length_cons, List.length_nil, Nat.reduceAdd, Row.cells, Cm.L, Rq.L, Tp.L, Bat.L, Ty.L] at H
                refine LW.nil ?_
                refine blockE_norm ?_
                refine thenE_norm ?_
                exact ⟨rfl, ⟨sl, ⟨b, ⟨x1, x2, ⟨x3, x4⟩, x5, v13_2⟩, .slice none 0 0⟩, tyNew b ⟨x1, x2, ⟨x3, x4⟩, x5, x6⟩ rs, g13_2, none⟩, l, [], FH, rfl, ⟨rfl, ⟨rfl, rfl, rfl, rfl, rfl⟩, by rw [hlm]; rfl, by rw [hlm]; exact Bool.false_ne_true, by rw [List.append_nil]; exact h2, fun y => put_new hlk, fun m => put_new hlm, hk, by omega⟩, by
                  rw [List.append_nil]
                  exact SH.sel (H.addO (α := Int) 3) [0, 1, 2, 6, 7, 5] (by decide) rfl⟩
        try clear H
        rintro vs wJ σ ⟨⟨tk, ⟨z1, ⟨z2, z3, ⟨z4, z5⟩, z6, z7⟩, z8⟩, tm, tq, tf⟩, l1, l2, F', rfl, ⟨q1, q2, q3, q4, q5, q6, q7, q8, q9⟩, H⟩
        simp only [setL, keepE, upd_get, ev, Nat.reduceEqDiff, ↓reduceIte]
        dsimp only at q1 q3 H
        subst tk
        have hbo : OkT s1 tm := by rw [q3]; exact base_ok hok hgo
        have hup := hbo.up
        have hf7 := hbo.len (by omega) hn1
        have hat := atK_le idK tm.frm i
        have hoz7 : oneC z7 = true := Rs.oneC (SH.rsO H (i := 3) rfl)
        have hoz8 : oneC z8 = true := Rs.oneC (SH.rsO H (i := 4) rfl)
        have hput := hear_put hgo q8 q9 q4
        rw [hput] at hok' ⊢
        dsimp only at hok' ⊢
        rw [← q3] at hok' ⊢
        refine CW.seq (fun K18 h18 => ?_)
        refine CW.seq (fun K19 h19 => ?_)
        refine CW.region ?_
        refine r_fieldAddrO rfl Try.underlying107 rfl Try.sizeOf41 (by decide) (show _ = 7 from rfl) rfl ?_
        refine r_load rfl Try.isAgg41 rfl (by first | exact SH.cellB H (by (repeat first | exact At.here | apply At.there); done) (by rfl) | assumption) ?_
        refine r_move rfl ?_
        refine r_call rfl Try.call67 (by simp only [List.map_cons, List.map_nil, List.map_toArray, List.toList_toArray, upd_get, ev, Nat.reduceEqDiff, ↓reduceIte] <;> rfl) (BsI_c i _ (SH.rsO H (i := 4) rfl) (by omega) hup) ?_
        rintro _ w15_3 ⟨rfl, X⟩
        refine ⟨_, rfl, ?_⟩
        replace H := SH.same H X
        clear X
        refine r_move rfl ?_
        refine r_extract rfl (by simp only [upd_get, ev, Nat.reduceEqDiff, ↓reduceIte] <;> rfl) (by simp only [List.getElem?_toArray, List.getElem?_cons_zero, List.getElem?_cons_succ] <;> rfl) ?_
        refine r_extract rfl (by simp only [upd_get, ev, Nat.reduceEqDiff, ↓reduceIte] <;> rfl) (by simp only [List.getElem?_toArray, List.getElem?_cons_zero, List.getElem?_cons_succ] <;> rfl) ?_
        refine r_assign rfl ?_
        refine r_assign rfl ?_
        refine LW.nil ?_
        refine thenE_norm ?_
        refine cut (K := K19) [0, 1, 3, 11, 13, 14] (fun σ => ?_)
        simp only [setL, keepE, upd_get, ev, Nat.reduceEqDiff, ↓reduceIte]
        refine h19 _ _ ?_; clear h19; try clear K19
        refine CW.seq (fun K20 h20 => ?_)
        rcases findK_place (n := i) hup with ⟨hin, y, hs, hc, hf⟩ | ⟨hin, hf, hno⟩
        · rw [hin]
          refine CW.region ?_
          refine r_move rfl ?_
          refine r_not rfl rfl ?_
          refine LW.nil ?_
          refine thenE_norm (h20 _ _ ?_); clear h20; try clear K20
          refine CW.condF rfl (by first | rfl | (simp only [decide_eq_true_eq, decide_eq_false_iff_not, Bool.and_eq_true, Bool.or_eq_true, Bool.and_eq_false_iff, Bool.or_eq_false_iff, Bool.not_eq_true', Bool.not_eq_false', beq_iff_eq, bne_iff_ne]; omega) | simp_all) ?_
          refine CW.skip ?_
          refine thenE_norm (h18 _ _ ?_); clear h18; try clear K18
          refine CW.seq (fun K21 h21 => ?_)
          refine CW.drawP [0, 5] [] H (by dsimp only [pickC, nthC] <;> rfl) (by repeat first | exact List.Sublist.refl _ | exact List.nil_sublist _ | apply List.Sublist.cons_cons | apply List.Sublist.cons) (by kernel_rfl) rfl ?_
          clear H
          intro w18d H
          refine DL.take (i := 0) [] rfl (by kernel_rfl) (by kernel_rfl) (by kernel_rfl) (by kernel_rfl) rfl rfl (fun u H => x_move ) (SH.sub H (by repeat first | exact List.Sublist.refl _ | exact List.nil_sublist _ | apply List.Sublist.cons_cons | apply List.Sublist.cons)) ?_
          refine DL.take (i := 1) [] rfl (by kernel_rfl) (by kernel_rfl) (by kernel_rfl) (by kernel_rfl) rfl rfl (fun u H => x_nilCheck rfl) (SH.sub H (by repeat first | exact List.Sublist.refl _ | exact List.nil_sublist _ | apply List.Sublist.cons_cons | apply List.Sublist.cons)) ?_
          refine DL.take (i := 2) [] rfl (by kernel_rfl) (by kernel_rfl) (by kernel_rfl) (by kernel_rfl) rfl rfl (fun u H => x_fieldAddrO Try.underlying104 rfl Try.sizeOf102 (by decide) (show _ = 2 from rfl) rfl) (SH.sub H (by repeat first | exact List.Sublist.refl _ | exact List.nil_sublist _ | apply List.Sublist.cons_cons | apply List.Sublist.cons)) ?_
          refine DL.take (i := 3) [] rfl (by kernel_rfl) (by kernel_rfl) (by kernel_rfl) (by kernel_rfl) rfl rfl (fun u H => x_load Try.isAgg102 rfl (by first | exact SH.cellB H (by (repeat first | exact At.here | apply At.there); done) (by rfl) | exact SH.cellI H (by (repeat first | exact At.here | apply At.there); done) (by rfl) | assumption)) (SH.sub H (by repeat first | exact List.Sublist.refl _ | exact List.nil_sublist _ | apply List.Sublist.cons_cons | apply List.Sublist.cons)) ?_
          refine DL.take (i := 4) [] rfl (by kernel_rfl) (by kernel_rfl) (by kernel_rfl) (by kernel_rfl) rfl rfl (fun u H => x_move ) (SH.sub H (by repeat first | exact List.Sublist.refl _ | exact List.nil_sublist _ | apply List.Sublist.cons_cons | apply List.Sublist.cons)) ?_
          refine DL.take (i := 5) [] rfl (by kernel_rfl) (by kernel_rfl) (by kernel_rfl) (by kernel_rfl) rfl rfl (fun u H => x_loadA Try.isAgg107 Try.sizeOf107 rfl (by first | exact SH.cells H (by (repeat first | exact At.here | apply At.there); done)) (by rfl)) (SH.sub H (by repeat first | exact List.Sublist.refl _ | exact List.nil_sublist _ | apply List.Sublist.cons_cons | apply List.Sublist.cons)) ?_
          refine DL.one (i := 6) (by kernel_rfl) rfl rfl ?_
          refine r_mapUpdate (u := (⟨z1, ⟨z2, z3, ⟨z4, z5⟩, z6, z7⟩, z8⟩ : Ty)) Try.underlying102 Try.underlying3 rfl rfl rfl rfl (SH.prop H (i := 1) rfl) ?_
          intro w18_6 hs18 he18 hm18
          replace H := SH.wroteM H (i := 1) rfl rfl hs18 he18 mp_st hm18
          refine LW.nil (thenE_norm ⟨fun _ => (SH.sub H (by repeat first | exact List.Sublist.refl _ | exact List.nil_sublist _ | apply List.Sublist.cons_cons | apply List.Sublist.cons)), ?_⟩)
          refine DL.done (by kernel_rfl) ?_
          refine thenE_norm ?_
          refine cut (K := K21) [] (fun σ => ?_)
          simp only [setL, keepE, upd_get, ev, Nat.reduceEqDiff, ↓reduceIte]
          refine h21 _ _ ?_; clear h21; try clear K21
          refine CW.seq (fun K22 h22 => ?_)
          refine CW.region ?_
          refine r_assign rfl ?_
          refine LW.nil ?_
          refine thenE_norm (h22 _ _ ?_); clear h22; try clear K22
          refine CW.ret (ret1 Try.results23 (by simp only [upd_get, ev, Nat.reduceEqDiff, ↓reduceIte]; rfl) ?_)
          have hsame := insF_same hup hs hc
          have hkv : setM (kvT l) sl (⟨z1, ⟨z2, z3, ⟨z4, z5⟩, z6, z7⟩, z8⟩ : Ty) = kvT (l1 ++ (⟨sl, ⟨z1, ⟨z2, z3, ⟨z4, z5⟩, z6, z7⟩, z8⟩, insF tm i, tq, tf⟩ : TG) :: l2) := by rw [q6]; simp [kvT]
          rw [hkv] at H
          have H8 := SH.sel H [2, 3, 4, 0, 1] (by decide) rfl
          rw [← hsame] at H8
          obtain ⟨F9, H9⟩ := SH.gather (t := ⟨sl, ⟨z1, ⟨z2, z3, ⟨z4, z5⟩, z6, z7⟩, z8⟩, insF tm i, tq, tf⟩) (l' := l1 ++ (⟨sl, ⟨z1, ⟨z2, z3, ⟨z4, z5⟩, z6, z7⟩, z8⟩, insF tm i, tq, tf⟩ : TG) :: l2) H8 List.perm_middle
          obtain ⟨FN', K⟩ := LrnA.mk hok' (by rw [q7]; simp [msT]) (fun u hu => by
            rcases List.mem_append.1 hu with hu | hu
            · exact q5 u (by simp [hu])
            · rcases List.mem_cons.1 hu with rfl | hu
              · exact q2
              · exact q5 u (by simp [hu])) (SH.sel H9 [1, 2, 0] (by decide) rfl)
          exact ⟨_, rfl, K⟩
        · rw [hin]
          refine CW.region ?_
          refine r_move rfl ?_
          refine r_not rfl rfl ?_
          refine LW.nil ?_
          refine thenE_norm (h20 _ _ ?_); clear h20; try clear K20
          refine CW.condT rfl (by first | rfl | (simp only [decide_eq_true_eq, decide_eq_false_iff_not, Bool.and_eq_true, Bool.or_eq_true, Bool.and_eq_false_iff, Bool.or_eq_false_iff, Bool.not_eq_true', Bool.not_eq_false', beq_iff_eq, bne_iff_ne]; omega) | simp_all) ?_
          refine CW.region ?_
          refine r_fieldAddrO rfl Try.underlying107 rfl Try.sizeOf41 (by decide) (show _ = 7 from rfl) rfl ?_
          refine r_load rfl Try.isAgg41 rfl (by first | exact SH.cellB H (by (repeat first | exact At.here | apply At.there); done) (by rfl) | assumption) ?_
          refine r_move rfl ?_
          refine r_move rfl ?_
          refine r_buildSlice rfl Try.underlying41 Try.sizeOf3 Try.zeroValue3 rfl rfl rfl (by simp only [List.map_cons, List.map_nil, List.toList_toArray, List.foldl_cons, List.foldl_nil, List.replicate_succ, List.replicate_zero, List.set_cons_zero, List.set_cons_succ, upd_get, ev, Nat.reduceEqDiff, ↓reduceIte] <;> rfl) ?_
          intro b17_4 w17_4 hb17_4 hs17_4 hE17_4 hB17_4
          replace H := SH.call H (SH.fromB hE17_4 hb17_4 hs17_4 hB17_4)
          clear hb17_4 hs17_4 hE17_4 hB17_4
          try dsimp only [replC, List.cons_append, List.nil_append, List.append_nil, agg, cellsL, Value.cells, List.toList_toArray, List.set_cons_zero, List.set_cons_succ, spliceL, List.take_succ_cons, List.take_zero, List.drop_succ_cons, List.drop_zero, List.length_cons, List.length_nil, Nat.reduceAdd, Row.cells, Cm.L, Rq.L, Tp.L, Bat.L, Ty.L] at H
          replace H := SH.row (b := b17_4) (xs := ([i] : List Int)) (n := 1) (cap := 1) H (by (repeat first | exact At.here | apply At.there); done) (by rfl) (by intro x hx; first | rfl | (simp at hx; done) | (simp only [List.mem_cons, List.not_mem_nil, or_false] at hx; rcases hx with rfl <;> first | rfl | exact (by first | rfl | assumption | exact Rs.oneC (by first | assumption | exact SH.rsR H (by (repeat first | exact At.here | apply At.there); done) | exact SH.rsO H (by (repeat first | exact At.here | apply At.there); done) | exact (Rs.nil : Rs Non _ _ _)) | (simp only [List.all_cons, List.all_nil, Bool.and_true, Bool.and_eq_true, Row.cells, Cm.L, Rq.L, Tp.L, Bat.L, Ty.L]; (repeat' constructor) <;> first | rfl | assumption | exact Rs.oneC (by first | assumption | exact SH.rsR H (by (repeat first | exact At.here | apply At.there); done) | exact SH.rsO H (by (repeat first | exact At.here | apply At.there); done) | exact (Rs.nil : Rs Non _ _ _)))))) (by rfl) rfl (by decide)
          try dsimp only [replC, List.cons_append, List.nil_append, List.append_nil, agg, cellsL, Value.cells, List.toList_toArray, List.set_cons_zero, List.set_cons_succ, spliceL, List.take_succ_cons, List.take_zero, List.drop_succ_cons, List.drop_zero, List.length_cons, List.length_nil, Nat.reduceAdd, Row.cells, Cm.L, Rq.L, Tp.L, Bat.L, Ty.L] at H
          refine r_call rfl Try.call68 (by simp only [List.map_cons, List.map_nil, List.map_toArray, List.toList_toArray, upd_get, ev, Nat.reduceEqDiff, ↓reduceIte] <;> rfl) (InsI_c (y := i) (atK idK tm.frm i) _ (SH.ow H (i := 4) rfl) (SH.ow H (i := 6) rfl) (fun b h1 h2 => (SH.val H).apart (i := 4) (j := 6) rfl rfl (by decide) (.inl trivial) b h2 h1) hat (by omega)) ?_
          rintro _ w17_5 ⟨v17_5, g17_5, rfl, K⟩
          refine ⟨_, rfl, ?_⟩
          replace H := SH.updO H (i := 4) rfl K
          clear K
          try dsimp only [replC, List.cons_append, List.nil_append, List.append_nil] at H
          refine r_fieldAddrO rfl Try.underlying107 rfl Try.sizeOf41 (by decide) (show _ = 7 from rfl) rfl ?_
          refine s_store H Try.sizeOf41 rfl (by simp only [upd_get, ev, Nat.reduceEqDiff, ↓reduceIte] <;> rfl) (by first | rfl | assumption | exact Rs.oneC (by first | assumption | exact SH.rsR H (by (repeat first | exact At.here | apply At.there); done) | exact SH.rsO H (by (repeat first | exact At.here | apply At.there); done) | exact (Rs.nil : Rs Non _ _ _)) | (simp only [List.all_cons, List.all_nil, Bool.and_true, Bool.and_eq_true, Row.cells, Cm.L, Rq.L, Tp.L, Bat.L, Ty.L]; (repeat' constructor) <;> first | rfl | assumption | exact Rs.oneC (by first | assumption | exact SH.rsR H (by (repeat first | exact At.here | apply At.there); done) | exact SH.rsO H (by (repeat first | exact At.here | apply At.there); done) | exact (Rs.nil : Rs Non _ _ _)))) (by (repeat first | exact At.here | apply At.there); done) (by first | (simp; done) | decide | omega) ?_
          clear H
          intro w17_7 H
          try dsimp only [replC, List.cons_append, List.nil_append, List.append_nil, agg, cellsL, Value.cells, List.toList_toArray, List.set_cons_zero, List.set_cons_succ, spliceL, List.take_succ_cons, List.take_zero, List.drop_succ_cons, List.drop_zero, List.length_cons, List.length_nil, Nat.reduceAdd, Row.cells, Cm.L, Rq.L, Tp.L, Bat.L, Ty.L] at H
          refine LW.nil ?_
          refine thenE_norm ?_
          refine cut (K := K18) [0, 3, 11] (fun σ => ?_)
          simp only [setL, keepE, upd_get, ev, Nat.reduceEqDiff, ↓reduceIte]
          refine h18 _ _ ?_; clear h18; try clear K18
          refine CW.seq (fun K23 h23 => ?_)
          refine CW.drawP [0, 5] [] H (by dsimp only [pickC, nthC] <;> rfl) (by repeat first | exact List.Sublist.refl _ | exact List.nil_sublist _ | apply List.Sublist.cons_cons | apply List.Sublist.cons) (by kernel_rfl) rfl ?_
          clear H
          intro w18d H
          refine DL.take (i := 0) [] rfl (by kernel_rfl) (by kernel_rfl) (by kernel_rfl) (by kernel_rfl) rfl rfl (fun u H => x_move ) (SH.sub H (by repeat first | exact List.Sublist.refl _ | exact List.nil_sublist _ | apply List.Sublist.cons_cons | apply List.Sublist.cons)) ?_
          refine DL.take (i := 1) [] rfl (by kernel_rfl) (by kernel_rfl) (by kernel_rfl) (by kernel_rfl) rfl rfl (fun u H => x_nilCheck rfl) (SH.sub H (by repeat first | exact List.Sublist.refl _ | exact List.nil_sublist _ | apply List.Sublist.cons_cons | apply List.Sublist.cons)) ?_
          refine DL.take (i := 2) [] rfl (by kernel_rfl) (by kernel_rfl) (by kernel_rfl) (by kernel_rfl) rfl rfl (fun u H => x_fieldAddrO Try.underlying104 rfl Try.sizeOf102 (by decide) (show _ = 2 from rfl) rfl) (SH.sub H (by repeat first | exact List.Sublist.refl _ | exact List.nil_sublist _ | apply List.Sublist.cons_cons | apply List.Sublist.cons)) ?_
          refine DL.take (i := 3) [] rfl (by kernel_rfl) (by kernel_rfl) (by kernel_rfl) (by kernel_rfl) rfl rfl (fun u H => x_load Try.isAgg102 rfl (by first | exact SH.cellB H (by (repeat first | exact At.here | apply At.there); done) (by rfl) | exact SH.cellI H (by (repeat first | exact At.here | apply At.there); done) (by rfl) | assumption)) (SH.sub H (by repeat first | exact List.Sublist.refl _ | exact List.nil_sublist _ | apply List.Sublist.cons_cons | apply List.Sublist.cons)) ?_
          refine DL.take (i := 4) [] rfl (by kernel_rfl) (by kernel_rfl) (by kernel_rfl) (by kernel_rfl) rfl rfl (fun u H => x_move ) (SH.sub H (by repeat first | exact List.Sublist.refl _ | exact List.nil_sublist _ | apply List.Sublist.cons_cons | apply List.Sublist.cons)) ?_
          refine DL.take (i := 5) [] rfl (by kernel_rfl) (by kernel_rfl) (by kernel_rfl) (by kernel_rfl) rfl rfl (fun u H => x_loadA Try.isAgg107 Try.sizeOf107 rfl (by first | exact SH.cells H (by (repeat first | exact At.here | apply At.there); done)) (by rfl)) (SH.sub H (by repeat first | exact List.Sublist.refl _ | exact List.nil_sublist _ | apply List.Sublist.cons_cons | apply List.Sublist.cons)) ?_
          refine DL.one (i := 6) (by kernel_rfl) rfl rfl ?_
          refine r_mapUpdate (u := (⟨z1, ⟨z2, z3, ⟨z4, z5⟩, z6, z7⟩, v17_5⟩ : Ty)) Try.underlying102 Try.underlying3 rfl rfl rfl rfl (SH.prop H (i := 1) rfl) ?_
          intro w18_6 hs18 he18 hm18
          replace H := SH.wroteM H (i := 1) rfl rfl hs18 he18 mp_st hm18
          refine LW.nil (thenE_norm ⟨fun _ => (SH.sub H (by repeat first | exact List.Sublist.refl _ | exact List.nil_sublist _ | apply List.Sublist.cons_cons | apply List.Sublist.cons)), ?_⟩)
          refine DL.done (by kernel_rfl) ?_
          refine thenE_norm ?_
          refine cut (K := K23) [] (fun σ => ?_)
          simp only [setL, keepE, upd_get, ev, Nat.reduceEqDiff, ↓reduceIte]
          refine h23 _ _ ?_; clear h23; try clear K23
          refine CW.seq (fun K24 h24 => ?_)
          refine CW.region ?_
          refine r_assign rfl ?_
          refine LW.nil ?_
          refine thenE_norm (h24 _ _ ?_); clear h24; try clear K24
          refine CW.ret (ret1 Try.results23 (by simp only [upd_get, ev, Nat.reduceEqDiff, ↓reduceIte]; rfl) ?_)
          have hins : tm.frm.take (atK idK tm.frm i) ++ [i] ++ tm.frm.drop (atK idK tm.frm i) = putK idK tm.frm i := (putK_out (m := i) hup hno).symm
          have hkv : setM (kvT l) sl (⟨z1, ⟨z2, z3, ⟨z4, z5⟩, z6, z7⟩, v17_5⟩ : Ty) = kvT (l1 ++ (⟨sl, ⟨z1, ⟨z2, z3, ⟨z4, z5⟩, z6, z7⟩, v17_5⟩, insF tm i, tq, g17_5⟩ : TG) :: l2) := by rw [q6]; simp [kvT]
          rw [hkv] at H
          have H8 := SH.sel H [2, 3, 4, 0, 1] (by decide) rfl
          rw [hins] at H8
          obtain ⟨F9, H9⟩ := SH.gather (t := ⟨sl, ⟨z1, ⟨z2, z3, ⟨z4, z5⟩, z6, z7⟩, v17_5⟩, insF tm i, tq, g17_5⟩) (l' := l1 ++ (⟨sl, ⟨z1, ⟨z2, z3, ⟨z4, z5⟩, z6, z7⟩, v17_5⟩, insF tm i, tq, g17_5⟩ : TG) :: l2) H8 List.perm_middle
          obtain ⟨FN', K⟩ := LrnA.mk hok' (by rw [q7]; simp [msT]) (fun u hu => by
            rcases List.mem_append.1 hu with hu | hu
            · exact q5 u (by simp [hu])
            · rcases List.mem_cons.1 hu with rfl | hu
              · exact q2
              · exact q5 u (by simp [hu])) (SH.sel H9 [1, 2, 0] (by decide) rfl)
          exact ⟨_, rfl, K⟩
      · obtain ⟨y1, ⟨y2, y3, ⟨y4, y5⟩, y6, y7⟩, y8⟩ := y
        obtain ⟨l1, t, l2, e1, e2, e3, hlm, e5, e6⟩ := look_at hlk
        obtain ⟨tk, tx, tm, tq, tf⟩ := t
        dsimp only at e2 e3 hlm
        subst tk
        subst tx
        have htm : (⟨sl, ⟨y1, ⟨y2, y3, ⟨y4, y5⟩, y6, y7⟩, y8⟩, tm, tq, tf⟩ : TG) ∈ l := by rw [e1]; simp
        have htok := h2 _ htm
        have htb : y1 = tm.ballot := htok.1
        have hoy7 : oneC y7 = true := Rs.oneC (HrA.rf (SH.prop H (i := 2) rfl) htm).2
        have hoy8 : oneC y8 = true := Rs.oneC (HrA.rf (SH.prop H (i := 2) rfl) htm).1
        refine CW.region ?_
        refine r_move rfl ?_
        refine r_nilCheck rfl rfl ?_
        refine r_fieldAddrO rfl Try.underlying104 rfl Try.sizeOf102 (by decide) (show _ = 2 from rfl) rfl ?_
        refine r_load rfl Try.isAgg102 rfl (by first | exact SH.cellB H (by (repeat first | exact At.here | apply At.there); done) (by rfl) | exact SH.cellI H (by (repeat first | exact At.here | apply At.there); done) (by rfl) | assumption) ?_
        refine r_move rfl ?_
        refine r_lookup2S rfl Try.underlying102 Try.underlying3 Try.zeroValue107 rfl rfl (SH.prop H (i := 1) rfl) hlk ?_
        refine r_move rfl ?_
        refine r_extract rfl (by simp only [upd_get, ev, Nat.reduceEqDiff, ↓reduceIte] <;> rfl) (by simp only [List.getElem?_toArray, List.getElem?_cons_zero, List.getElem?_cons_succ] <;> rfl) ?_
        refine r_extract rfl (by simp only [upd_get, ev, Nat.reduceEqDiff, ↓reduceIte] <;> rfl) (by simp only [List.getElem?_toArray, List.getElem?_cons_zero, List.getElem?_cons_succ] <;> rfl) ?_
        refine s_alloc (cs := [.int .i64 0, .bool false, .int .i64 0, .int .i64 0, .int .i64 0, .int .i64 0, .slice none 0 0, .slice none 0 0]) H rfl Try.zeroValue107 rfl ?_
        clear H
        intro b5_9 w5_9 H
        try dsimp only [replC, List.cons_append, List.nil_append, List.append_nil, agg, cellsL, Value.cells, List.toList_toArray, List.set_cons_zero, List.set_cons_succ, spliceL, List.take_succ_cons, List.take_zero, List.drop_succ_cons, List.drop_zero, List.length_cons, List.length_nil, Nat.reduceAdd, Row.cells, Cm.L, Rq.L, Tp.L, Bat.L, Ty.L] at H
        refine s_storeA H Try.sizeOf107 rfl (by simp only [upd_get, ev, Nat.reduceEqDiff, ↓reduceIte] <;> rfl) (by simp only [cellsL, agg, List.toList_toArray, Row.cells, Cm.L, Rq.L, Tp.L, Bat.L, Ty.L] <;> rfl) (by rfl) (by first | rfl | assumption | exact Rs.oneC (by first | assumption | exact SH.rsR H (by (repeat first | exact At.here | apply At.there); done) | exact SH.rsO H (by (repeat first | exact At.here | apply At.there); done) | exact (Rs.nil : Rs Non _ _ _)) | (simp only [List.all_cons, List.all_nil, Bool.and_true, Bool.and_eq_true, Row.cells, Cm.L, Rq.L, Tp.L, Bat.L, Ty.L]; (repeat' constructor) <;> first | rfl | assumption | exact Rs.oneC (by first | assumption | exact SH.rsR H (by (repeat first | exact At.here | apply At.there); done) | exact SH.rsO H (by (repeat first | exact At.here | apply At.there); done) | exact (Rs.nil : Rs Non _ _ _)))) (by (repeat first | exact At.here | apply At.there); done) (by first | (simp; done) | decide | (show _ ≤ _; decide)) ?_
        clear H
        intro w5_10 H
        try dsimp only [replC, List.cons_append, List.nil_append, List.append_nil, agg, cellsL, Value.cells, List.toList_toArray, List.set_cons_zero, List.set_cons_succ, spliceL, List.take_succ_cons, List.take_zero, List.drop_succ_cons, List.drop_zero, List.length_cons, List.length_nil, Nat.reduceAdd, Row.cells, Cm.L, Rq.L, Tp.L, Bat.L, Ty.L] at H
        refine r_assign rfl ?_
        refine LW.nil ?_
        refine thenE_norm ?_
        refine cut (K := K8) [0, 1, 2, 3, 9, 11, 12] (fun σ => ?_)
        simp only [setL, keepE, upd_get, ev, Nat.reduceEqDiff, ↓reduceIte]
        refine h8 _ _ ?_; clear h8; try clear K8
        refine CW.seqJ [0, 1, 3, 11] [] (fun vs w' => ∃ (t : TG) (l1 l2 : List TG) (F' : Nat → Prop), vs = [] ∧ (t.k = sl ∧ t.ok ∧ t.m = baseT (lookM (msT l) sl) b ⟨x1, x2, ⟨x3, x4⟩, x5, x6⟩ rs ∧ ¬ oldT (lookM (msT l) sl) b = true ∧ (∀ u ∈ l1 ++ l2, u.ok) ∧ (∀ y, setM (kvT l) sl y = kvT l1 ++ (sl, y) :: kvT l2) ∧ (∀ m, setM (msT l) sl m = msT l1 ++ (sl, m) :: msT l2) ∧ ¬ (sl ≤ (⟨s1, s2, msT l⟩ : LnS).done ∨ chosenT s1 (lookM (msT l) sl) = true) ∧ ¬ 9 < sl - s2) ∧
  SH FN Any w w' [.B p 104 [.int .i64 s1, .int .i64 s2, .map (some bm)], .P (fun k => k = bm) (Mp bm (kvT l)), .P F' (HrA (l1 ++ l2) F'), .O 32 t.x.batch.reqs t.m.rs t.gq, .O 3 t.x.frm t.m.frm t.gf,
    .B b5_9 107 [.int .i64 t.x.ballot, .bool t.x.batch.fill, .int .i64 t.x.batch.view, .int .i64 t.x.batch.tip.view, .int .i64 t.x.batch.tip.slot, .int .i64 t.x.batch.time, t.x.batch.reqs, t.x.frm]]) ?_ ?_
        · refine CW.block ?_
          refine CW.seq (fun K26 h26 => ?_)
          refine CW.region ?_
          refine r_move rfl ?_
          refine r_move rfl ?_
          refine r_nilCheck rfl rfl ?_
          refine r_fieldAddrO rfl Try.underlying104 rfl Try.sizeOf3 (by decide) (show _ = 1 from rfl) rfl ?_
          refine r_load rfl Try.isAgg3 rfl (by first | exact SH.cellB H (by (repeat first | exact At.here | apply At.there); done) (by rfl) | exact SH.cellI H (by (repeat first | exact At.here | apply At.there); done) (by rfl) | assumption) ?_
          refine r_leq rfl rfl rfl ?_
          refine r_move rfl ?_
          refine LW.splitB (t := 61) rfl (fun hg6_7 => ?_) (fun hg6_7 => ?_)
          · have hg6_7P := hg6_7
            try simp only [decide_eq_true_eq, decide_eq_false_iff_not, Bool.and_eq_true, Bool.or_eq_true, Bool.and_eq_false_iff, Bool.or_eq_false_iff, Bool.not_eq_true', Bool.not_eq_false', beq_iff_eq, bne_iff_ne] at hg6_7P
            refine LW.skip rfl (fun _ e => by cases e; decide) rfl hg6_7 ?_
            refine LW.skip rfl (fun _ e => by cases e; decide) rfl hg6_7 ?_
            refine LW.skip rfl (fun _ e => by cases e; decide) rfl hg6_7 ?_
            refine r_pickT rfl rfl hg6_7 ?_
            refine r_assign rfl ?_
            refine LW.nil ?_
            refine thenE_norm ?_
            refine cut (K := K26) [0, 1, 2, 3, 9, 11, 12, 54] (fun σ => ?_)
            simp only [setL, keepE, upd_get, ev, Nat.reduceEqDiff, ↓reduceIte]
            refine h26 _ _ ?_; clear h26; try clear K26
            refine CW.condT rfl (by first | rfl | (simp only [decide_eq_true_eq, decide_eq_false_iff_not, Bool.and_eq_true, Bool.or_eq_true, Bool.and_eq_false_iff, Bool.or_eq_false_iff, Bool.not_eq_true', Bool.not_eq_false', beq_iff_eq, bne_iff_ne]; omega) | simp_all) ?_
            refine CW.seq (fun K27 h27 => ?_)
            refine CW.region ?_
            refine r_assign rfl ?_
            refine LW.nil ?_
            refine thenE_norm (h27 _ _ ?_); clear h27; try clear K27
            refine CW.ret (blockE_ret (thenE_ret (ret1 Try.results23 (by simp only [upd_get, ev, Nat.reduceEqDiff, ↓reduceIte]; rfl) ?_)))
            rw [hear_done hgo (.inl (by first | assumption | omega))]
            obtain ⟨FN', K⟩ := LrnA.mk hok rfl h2 (SH.sel H [0, 1, 2] (by decide) (by rfl))
            exact ⟨_, rfl, K⟩
          · have hg6_7P := hg6_7
            try simp only [decide_eq_true_eq, decide_eq_false_iff_not, Bool.and_eq_true, Bool.or_eq_true, Bool.and_eq_false_iff, Bool.or_eq_false_iff, Bool.not_eq_true', Bool.not_eq_false', beq_iff_eq, bne_iff_ne] at hg6_7P
            refine LW.want rfl rfl hg6_7 ?_
            refine r_move rfl ?_
            refine LW.want rfl rfl hg6_7 ?_
            refine r_loadA rfl Try.isAgg107 Try.sizeOf107 rfl (by first | exact SH.cells H (by (repeat first | exact At.here | apply At.there); done)) (by rfl) ?_
            refine LW.want rfl rfl hg6_7 ?_
            refine r_call rfl Try.call65 (by simp only [List.map_cons, List.map_nil, List.map_toArray, List.toList_toArray, upd_get, ev, Nat.reduceEqDiff, ↓reduceIte] <;> rfl) (chosen_c ⟨_, ⟨_, _, ⟨_, _⟩, _, _⟩, _⟩ _ (SH.blk H (i := 0) rfl) ⟨hn0, hn1⟩ (HrA.rf (SH.prop H (i := 2) rfl) htm).1) ?_
            rintro _ w6_9 ⟨rfl, X⟩
            refine ⟨_, rfl, ?_⟩
            replace H := SH.same H X
            clear X
            refine r_pickF rfl rfl hg6_7 ?_
            refine r_assign rfl ?_
            refine LW.nil ?_
            refine thenE_norm ?_
            refine cut (K := K26) [0, 1, 2, 3, 9, 11, 12, 54] (fun σ => ?_)
            simp only [setL, keepE, upd_get, ev, Nat.reduceEqDiff, ↓reduceIte]
            refine h26 _ _ ?_; clear h26; try clear K26
            refine CW.cond rfl (fun hc3 => ?_) (fun hc3 => ?_)
            · try simp only [decide_eq_true_eq, decide_eq_false_iff_not, Bool.and_eq_true, Bool.or_eq_true, Bool.and_eq_false_iff, Bool.or_eq_false_iff, Bool.not_eq_true', Bool.not_eq_false', beq_iff_eq, bne_iff_ne, ne_eq, Decidable.not_not] at hc3
              refine CW.seq (fun K28 h28 => ?_)
              refine CW.region ?_
              refine r_assign rfl ?_
              refine LW.nil ?_
              refine thenE_norm (h28 _ _ ?_); clear h28; try clear K28
              refine CW.ret (blockE_ret (thenE_ret (ret1 Try.results23 (by simp only [upd_get, ev, Nat.reduceEqDiff, ↓reduceIte]; rfl) ?_)))
              rw [hear_done hgo (.inr (by
                dsimp only
                rw [hlm]
                first
                  | exact decide_eq_true hc3
                  | (exfalso; revert hc3; simp; omega)))]
              obtain ⟨FN', K⟩ := LrnA.mk hok rfl h2 (SH.sel H [0, 1, 2] (by decide) (by rfl))
              exact ⟨_, rfl, K⟩
            · try simp only [decide_eq_true_eq, decide_eq_false_iff_not, Bool.and_eq_true, Bool.or_eq_true, Bool.and_eq_false_iff, Bool.or_eq_false_iff, Bool.not_eq_true', Bool.not_eq_false', beq_iff_eq, bne_iff_ne, ne_eq, Decidable.not_not] at hc3
              have hk : ¬ (sl ≤ (⟨s1, s2, msT l⟩ : LnS).done ∨ chosenT s1 (lookM (msT l) sl) = true) := by
                rintro (q | q)
                · dsimp only at q; omega
                · rw [hlm] at q
                  first
                    | cases q; done
                    | exact hc3 (of_decide_eq_true q)
              refine CW.seq (fun K29 h29 => ?_)
              refine CW.region ?_
              refine r_move rfl ?_
              refine r_move rfl ?_
              refine r_nilCheck rfl rfl ?_
              refine r_fieldAddrO rfl Try.underlying104 rfl Try.sizeOf3 (by decide) (show _ = 1 from rfl) rfl ?_
              refine r_load rfl Try.isAgg3 rfl (by first | exact SH.cellB H (by (repeat first | exact At.here | apply At.there); done) (by rfl) | exact SH.cellI H (by (repeat first | exact At.here | apply At.there); done) (by rfl) | assumption) ?_
              refine r_sub rfl rfl rfl (wr_i64 (by omega) (by omega)) ?_
              refine r_gtr rfl rfl rfl ?_
              refine r_assign rfl ?_
              refine LW.nil ?_
              refine thenE_norm ?_
              refine cut (K := K29) [0, 1, 2, 3, 9, 11, 12, 66] (fun σ => ?_)
              simp only [setL, keepE, upd_get, ev, Nat.reduceEqDiff, ↓reduceIte]
              refine h29 _ _ ?_; clear h29; try clear K29
              refine CW.cond rfl (fun hc4 => ?_) (fun hc4 => ?_)
              · try simp only [decide_eq_true_eq, decide_eq_false_iff_not, Bool.and_eq_true, Bool.or_eq_true, Bool.and_eq_false_iff, Bool.or_eq_false_iff, Bool.not_eq_true', Bool.not_eq_false', beq_iff_eq, bne_iff_ne, ne_eq, Decidable.not_not] at hc4
                refine CW.seq (fun K30 h30 => ?_)
                refine CW.region ?_
                refine r_assign rfl ?_
                refine LW.nil ?_
                refine thenE_norm (h30 _ _ ?_); clear h30; try clear K30
                refine CW.ret (blockE_ret (thenE_ret (ret1 Try.results23 (by simp only [upd_get, ev, Nat.reduceEqDiff, ↓reduceIte]; rfl) ?_)))
                rw [hear_full hgo hk (show 9 < sl - s2 by omega)]
                obtain ⟨FN', K⟩ := LrnA.mk hok rfl h2 (SH.sel H [0, 1, 2] (by decide) (by rfl))
                exact ⟨_, rfl, K⟩
              · try simp only [decide_eq_true_eq, decide_eq_false_iff_not, Bool.and_eq_true, Bool.or_eq_true, Bool.and_eq_false_iff, Bool.or_eq_false_iff, Bool.not_eq_true', Bool.not_eq_false', beq_iff_eq, bne_iff_ne, ne_eq, Decidable.not_not] at hc4
                refine CW.seq (fun K31 h31 => ?_)
                refine CW.region ?_
                refine r_move rfl ?_
                refine r_move rfl ?_
                refine LW.known (t := 76) (c := true) rfl (by first | rfl | (simp only [decide_eq_true_eq, decide_eq_false_iff_not, Bool.and_eq_true, Bool.or_eq_true, Bool.and_eq_false_iff, Bool.or_eq_false_iff, Bool.not_eq_true', Bool.not_eq_false', beq_iff_eq, bne_iff_ne]; omega) | simp_all) (fun hg10_2 => ?_)
                refine LW.want rfl rfl hg10_2 ?_
                refine r_move rfl ?_
                refine LW.want rfl rfl hg10_2 ?_
                refine r_fieldAddrO rfl Try.underlying107 rfl Try.sizeOf3 (by decide) (show _ = 0 from rfl) rfl ?_
                refine LW.want rfl rfl hg10_2 ?_
                refine r_load rfl Try.isAgg3 rfl (by first | exact SH.cellB H (by (repeat first | exact At.here | apply At.there); done) (by rfl) | assumption) ?_
                refine LW.want rfl rfl hg10_2 ?_
                refine r_lss rfl rfl rfl ?_
                refine r_pickT rfl rfl hg10_2 ?_
                refine r_assign rfl ?_
                refine LW.nil ?_
                refine thenE_norm ?_
                refine cut (K := K31) [0, 1, 2, 3, 9, 11, 12, 74] (fun σ => ?_)
                simp only [setL, keepE, upd_get, ev, Nat.reduceEqDiff, ↓reduceIte]
                refine h31 _ _ ?_; clear h31; try clear K31
                refine CW.cond rfl (fun hc5 => ?_) (fun hc5 => ?_)
                · try simp only [decide_eq_true_eq, decide_eq_false_iff_not, Bool.and_eq_true, Bool.or_eq_true, Bool.and_eq_false_iff, Bool.or_eq_false_iff, Bool.not_eq_true', Bool.not_eq_false', beq_iff_eq, bne_iff_ne, ne_eq, Decidable.not_not] at hc5
                  refine CW.seq (fun K32 h32 => ?_)
                  refine CW.region ?_
                  refine r_assign rfl ?_
                  refine LW.nil ?_
                  refine thenE_norm (h32 _ _ ?_); clear h32; try clear K32
                  refine CW.ret (blockE_ret (thenE_ret (ret1 Try.results23 (by simp only [upd_get, ev, Nat.reduceEqDiff, ↓reduceIte]; rfl) ?_)))
                  rw [hear_old hgo hk (show ¬ 9 < sl - s2 by omega) (by dsimp only; rw [hlm]; exact decide_eq_true (by omega))]
                  obtain ⟨FN', K⟩ := LrnA.mk hok rfl h2 (SH.sel H [0, 1, 2] (by decide) (by rfl))
                  exact ⟨_, rfl, K⟩
                · try simp only [decide_eq_true_eq, decide_eq_false_iff_not, Bool.and_eq_true, Bool.or_eq_true, Bool.and_eq_false_iff, Bool.or_eq_false_iff, Bool.not_eq_true', Bool.not_eq_false', beq_iff_eq, bne_iff_ne, ne_eq, Decidable.not_not] at hc5
                  refine CW.seq (fun K33 h33 => ?_)
                  refine CW.region ?_
                  refine r_move rfl ?_
                  refine r_not rfl rfl ?_
                  refine r_move rfl ?_
                  refine LW.known (t := 85) (c := false) rfl (by first | rfl | (simp only [decide_eq_true_eq, decide_eq_false_iff_not, Bool.and_eq_true, Bool.or_eq_true, Bool.and_eq_false_iff, Bool.or_eq_false_iff, Bool.not_eq_true', Bool.not_eq_false', beq_iff_eq, bne_iff_ne]; omega) | simp_all) (fun hg12_3 => ?_)
                  refine LW.want rfl rfl hg12_3 ?_
                  refine r_move rfl ?_
                  refine LW.want rfl rfl hg12_3 ?_
                  refine r_fieldAddrO rfl Try.underlying107 rfl Try.sizeOf3 (by decide) (show _ = 0 from rfl) rfl ?_
                  refine LW.want rfl rfl hg12_3 ?_
                  refine r_load rfl Try.isAgg3 rfl (by first | exact SH.cellB H (by (repeat first | exact At.here | apply At.there); done) (by rfl) | assumption) ?_
                  refine LW.want rfl rfl hg12_3 ?_
                  refine r_gtr rfl rfl rfl ?_
                  refine r_pickF rfl rfl hg12_3 ?_
                  refine r_assign rfl ?_
                  refine LW.nil ?_
                  refine thenE_norm ?_
                  refine cut (K := K33) [0, 1, 2, 3, 9, 11, 82] (fun σ => ?_)
                  simp only [setL, keepE, upd_get, ev, Nat.reduceEqDiff, ↓reduceIte]
                  refine h33 _ _ ?_; clear h33; try clear K33
                  refine CW.cond rfl (fun hc6 => ?_) (fun hc6 => ?_)
                  · try simp only [decide_eq_true_eq, decide_eq_false_iff_not, Bool.and_eq_true, Bool.or_eq_true, Bool.and_eq_false_iff, Bool.or_eq_false_iff, Bool.not_eq_true', Bool.not_eq_false', beq_iff_eq, bne_iff_ne, ne_eq, Decidable.not_not] at hc6
                    refine CW.seq (fun K34 h34 => ?_)
                    refine CW.region ?_
                    refine r_fieldAddrO rfl Try.underlying27 rfl Try.sizeOf25 (by decide) (show _ = 5 from rfl) rfl ?_
                    refine r_load rfl Try.isAgg25 rfl (by first | exact SH.cellB H (by (repeat first | exact At.here | apply At.there); done) (by rfl) | assumption) ?_
                    refine r_call rfl Try.call66 (by simp only [List.map_cons, List.map_nil, List.map_toArray, List.toList_toArray, upd_get, ev, Nat.reduceEqDiff, ↓reduceIte] <;> rfl) (CloneQL_c _ (by first | assumption | exact SH.rsR H (by (repeat first | exact At.here | apply At.there); done) | exact SH.rsO H (by (repeat first | exact At.here | apply At.there); done) | exact (Rs.nil : Rs Non _ _ _)) (by first | omega | (simp only [List.length_append, List.length_cons, List.length_nil]; omega) | (simp; omega))) ?_
                    rintro _ w13_2 ⟨v13_2, g13_2, rfl, K⟩
                    refine ⟨_, rfl, ?_⟩
                    replace H := SH.call H K
                    clear K
                    try dsimp only [replC, List.cons_append, List.nil_append, List.append_nil] at H
                    refine r_fieldAddrO rfl Try.underlying27 rfl Try.sizeOf25 (by decide) (show _ = 5 from rfl) rfl ?_
                    refine s_store H Try.sizeOf25 rfl (by simp only [upd_get, ev, Nat.reduceEqDiff, ↓reduceIte] <;> rfl) (by first | rfl | assumption | exact Rs.oneC (by first | assumption | exact SH.rsR H (by (repeat first | exact At.here | apply At.there); done) | exact SH.rsO H (by (repeat first | exact At.here | apply At.there); done) | exact (Rs.nil : Rs Non _ _ _)) | (simp only [List.all_cons, List.all_nil, Bool.and_true, Bool.and_eq_true, Row.cells, Cm.L, Rq.L, Tp.L, Bat.L, Ty.L]; (repeat' constructor) <;> first | rfl | assumption | exact Rs.oneC (by first | assumption | exact SH.rsR H (by (repeat first | exact At.here | apply At.there); done) | exact SH.rsO H (by (repeat first | exact At.here | apply At.there); done) | exact (Rs.nil : Rs Non _ _ _)))) (by (repeat first | exact At.here | apply At.there); done) (by first | (simp; done) | decide | omega) ?_
                    clear H
                    intro w13_4 H
                    try dsimp only [replC, List.cons_append, List.nil_append, List.append_nil, agg, cellsL, Value.cells, List.toList_toArray, List.set_cons_zero, List.set_cons_succ, spliceL, List.take_succ_cons, List.take_zero, List.drop_succ_cons, List.drop_zero, List.length_cons, List.length_nil, Nat.reduceAdd, Row.cells, Cm.L, Rq.L, Tp.L, Bat.L, Ty.L] at H
                    refine LW.nil ?_
                    refine thenE_norm (h34 _ _ ?_); clear h34; try clear K34
                    refine CW.region ?_
                    refine r_move rfl ?_
                    refine r_loadA rfl Try.isAgg27 Try.sizeOf27 rfl (by first | exact SH.cells H (by (repeat first | exact At.here | apply At.there); done)) (by rfl) ?_
                    refine r_buildQ rfl Try.underlying107 Try.zeroValue107 rfl (pl := [(0, 1), (1, 6), (7, 1)]) (by intro w; simp [go_sem]) (qs := [(0, [_]), (1, [_, _, _, _, _, _])]) (cs := [_, _, _, _, _, _, _, .slice none 0 0]) ⟨rfl, cells_one (by simp only [upd_get, ev, Nat.reduceEqDiff, ↓reduceIte] <;> rfl) (by first | rfl | exact Rs.oneC (by first | assumption | exact SH.rsR H (by (repeat first | exact At.here | apply At.there); done) | exact SH.rsO H (by (repeat first | exact At.here | apply At.there); done) | exact (Rs.nil : Rs Non _ _ _))), rfl, (by simp only [upd_get, ev, Nat.reduceEqDiff, ↓reduceIte, cellsL, agg, List.toList_toArray, Row.cells, Cm.L, Rq.L, Tp.L, Bat.L, Ty.L] <;> rfl), trivial⟩ rfl ?_
                    refine s_storeA H Try.sizeOf107 rfl (by simp only [upd_get, ev, Nat.reduceEqDiff, ↓reduceIte] <;> rfl) (by simp only [cellsL, agg, List.toList_toArray, Row.cells, Cm.L, Rq.L, Tp.L, Bat.L, Ty.L] <;> rfl) (by rfl) (by first | rfl | assumption | exact Rs.oneC (by first | assumption | exact SH.rsR H (by (repeat first | exact At.here | apply At.there); done) | exact SH.rsO H (by (repeat first | exact At.here | apply At.there); done) | exact (Rs.nil : Rs Non _ _ _)) | (simp only [List.all_cons, List.all_nil, Bool.and_true, Bool.and_eq_true, Row.cells, Cm.L, Rq.L, Tp.L, Bat.L, Ty.L]; (repeat' constructor) <;> first | rfl | assumption | exact Rs.oneC (by first | assumption | exact SH.rsR H (by (repeat first | exact At.here | apply At.there); done) | exact SH.rsO H (by (repeat first | exact At.here | apply At.there); done) | exact (Rs.nil : Rs Non _ _ _)))) (by (repeat first | exact At.here | apply At.there); done) (by first | (simp; done) | decide | (show _ ≤ _; decide)) ?_
                    clear H
                    intro w14_3 H
                    try dsimp only [replC, List.cons_append, List.nil_append, List.append_nil, agg, cellsL, Value.cells, List.toList_toArray, List.set_cons_zero, List.set_cons_succ, spliceL, List.take_succ_cons, List.take_zero, List.drop_succ_cons, List.drop_zero, List.length_cons, List.length_nil, Nat.reduceAdd, Row.cells, Cm.L, Rq.L, Tp.L, Bat.L, Ty.L] at H
                    refine LW.nil ?_
                    refine blockE_norm ?_
                    refine thenE_norm ?_
                    subst e1
                    obtain ⟨F9, H9⟩ := SH.entry (SH.sel H [2, 0, 1, 5, 6] (by decide) rfl)
                    exact ⟨rfl, ⟨sl, ⟨b, ⟨x1, x2, ⟨x3, x4⟩, x5, v13_2⟩, .slice none 0 0⟩, tyNew b ⟨x1, x2, ⟨x3, x4⟩, x5, x6⟩ rs, g13_2, none⟩, l1, l2, F9, rfl, ⟨rfl, ⟨rfl, rfl, rfl, rfl, rfl⟩, by rw [hlm, baseT, if_pos (by omega)], by rw [hlm, oldT, decide_eq_false (by omega)]; exact Bool.false_ne_true, fun u hu => h2 u (by
                      rcases List.mem_append.1 hu with q | q
                      · simp [q]
                      · simp [q]), e5, e6, hk, by omega⟩, SH.sel (H9.addO (α := Int) 3) [3, 4, 0, 6, 7, 5] (by decide) rfl⟩
                  · try simp only [decide_eq_true_eq, decide_eq_false_iff_not, Bool.and_eq_true, Bool.or_eq_true, Bool.and_eq_false_iff, Bool.or_eq_false_iff, Bool.not_eq_true', Bool.not_eq_false', beq_iff_eq, bne_iff_ne, ne_eq, Decidable.not_not] at hc6
                    refine CW.skip ?_
                    refine blockE_norm ?_
                    refine thenE_norm ?_
                    subst e1
                    obtain ⟨F9, H9⟩ := SH.entry (SH.sel H [2, 0, 1, 5] (by decide) rfl)
                    exact ⟨rfl, ⟨sl, ⟨y1, ⟨y2, y3, ⟨y4, y5⟩, y6, y7⟩, y8⟩, tm, tq, tf⟩, l1, l2, F9, rfl, ⟨rfl, htok, by rw [hlm, baseT, if_neg (by omega)], by rw [hlm, oldT, decide_eq_false (by omega)]; exact Bool.false_ne_true, fun u hu => h2 u (by
                      rcases List.mem_append.1 hu with q | q
                      · simp [q]
                      · simp [q]), e5, e6, hk, by omega⟩, SH.sel H9 [3, 4, 0, 1, 2, 5] (by decide) rfl⟩
        try clear H
        rintro vs wJ σ ⟨⟨tk, ⟨z1, ⟨z2, z3, ⟨z4, z5⟩, z6, z7⟩, z8⟩, tm, tq, tf⟩, l1, l2, F', rfl, ⟨q1, q2, q3, q4, q5, q6, q7, q8, q9⟩, H⟩
        simp only [setL, keepE, upd_get, ev, Nat.reduceEqDiff, ↓reduceIte]
        dsimp only at q1 q3 H
        subst tk
        have hbo : OkT s1 tm := by rw [q3]; exact base_ok hok hgo
        have hup := hbo.up
        have hf7 := hbo.len (by omega) hn1
        have hat := atK_le idK tm.frm i
        have hoz7 : oneC z7 = true := Rs.oneC (SH.rsO H (i := 3) rfl)
        have hoz8 : oneC z8 = true := Rs.oneC (SH.rsO H (i := 4) rfl)
        have hput := hear_put hgo q8 q9 q4
        rw [hput] at hok' ⊢
        dsimp only at hok' ⊢
        rw [← q3] at hok' ⊢
        refine CW.seq (fun K35 h35 => ?_)
        refine CW.seq (fun K36 h36 => ?_)
        refine CW.region ?_
        refine r_fieldAddrO rfl Try.underlying107 rfl Try.sizeOf41 (by decide) (show _ = 7 from rfl) rfl ?_
        refine r_load rfl Try.isAgg41 rfl (by first | exact SH.cellB H (by (repeat first | exact At.here | apply At.there); done) (by rfl) | assumption) ?_
        refine r_move rfl ?_
        refine r_call rfl Try.call67 (by simp only [List.map_cons, List.map_nil, List.map_toArray, List.toList_toArray, upd_get, ev, Nat.reduceEqDiff, ↓reduceIte] <;> rfl) (BsI_c i _ (SH.rsO H (i := 4) rfl) (by omega) hup) ?_
        rintro _ w15_3 ⟨rfl, X⟩
        refine ⟨_, rfl, ?_⟩
        replace H := SH.same H X
        clear X
        refine r_move rfl ?_
        refine r_extract rfl (by simp only [upd_get, ev, Nat.reduceEqDiff, ↓reduceIte] <;> rfl) (by simp only [List.getElem?_toArray, List.getElem?_cons_zero, List.getElem?_cons_succ] <;> rfl) ?_
        refine r_extract rfl (by simp only [upd_get, ev, Nat.reduceEqDiff, ↓reduceIte] <;> rfl) (by simp only [List.getElem?_toArray, List.getElem?_cons_zero, List.getElem?_cons_succ] <;> rfl) ?_
        refine r_assign rfl ?_
        refine r_assign rfl ?_
        refine LW.nil ?_
        refine thenE_norm ?_
        refine cut (K := K36) [0, 1, 3, 11, 13, 14] (fun σ => ?_)
        simp only [setL, keepE, upd_get, ev, Nat.reduceEqDiff, ↓reduceIte]
        refine h36 _ _ ?_; clear h36; try clear K36
        refine CW.seq (fun K37 h37 => ?_)
        rcases findK_place (n := i) hup with ⟨hin, y, hs, hc, hf⟩ | ⟨hin, hf, hno⟩
        · rw [hin]
          refine CW.region ?_
          refine r_move rfl ?_
          refine r_not rfl rfl ?_
          refine LW.nil ?_
          refine thenE_norm (h37 _ _ ?_); clear h37; try clear K37
          refine CW.condF rfl (by first | rfl | (simp only [decide_eq_true_eq, decide_eq_false_iff_not, Bool.and_eq_true, Bool.or_eq_true, Bool.and_eq_false_iff, Bool.or_eq_false_iff, Bool.not_eq_true', Bool.not_eq_false', beq_iff_eq, bne_iff_ne]; omega) | simp_all) ?_
          refine CW.skip ?_
          refine thenE_norm (h35 _ _ ?_); clear h35; try clear K35
          refine CW.seq (fun K38 h38 => ?_)
          refine CW.drawP [0, 5] [] H (by dsimp only [pickC, nthC] <;> rfl) (by repeat first | exact List.Sublist.refl _ | exact List.nil_sublist _ | apply List.Sublist.cons_cons | apply List.Sublist.cons) (by kernel_rfl) rfl ?_
          clear H
          intro w18d H
          refine DL.take (i := 0) [] rfl (by kernel_rfl) (by kernel_rfl) (by kernel_rfl) (by kernel_rfl) rfl rfl (fun u H => x_move ) (SH.sub H (by repeat first | exact List.Sublist.refl _ | exact List.nil_sublist _ | apply List.Sublist.cons_cons | apply List.Sublist.cons)) ?_
          refine DL.take (i := 1) [] rfl (by kernel_rfl) (by kernel_rfl) (by kernel_rfl) (by kernel_rfl) rfl rfl (fun u H => x_nilCheck rfl) (SH.sub H (by repeat first | exact List.Sublist.refl _ | exact List.nil_sublist _ | apply List.Sublist.cons_cons | apply List.Sublist.cons)) ?_
          refine DL.take (i := 2) [] rfl (by kernel_rfl) (by kernel_rfl) (by kernel_rfl) (by kernel_rfl) rfl rfl (fun u H => x_fieldAddrO Try.underlying104 rfl Try.sizeOf102 (by decide) (show _ = 2 from rfl) rfl) (SH.sub H (by repeat first | exact List.Sublist.refl _ | exact List.nil_sublist _ | apply List.Sublist.cons_cons | apply List.Sublist.cons)) ?_
          refine DL.take (i := 3) [] rfl (by kernel_rfl) (by kernel_rfl) (by kernel_rfl) (by kernel_rfl) rfl rfl (fun u H => x_load Try.isAgg102 rfl (by first | exact SH.cellB H (by (repeat first | exact At.here | apply At.there); done) (by rfl) | exact SH.cellI H (by (repeat first | exact At.here | apply At.there); done) (by rfl) | assumption)) (SH.sub H (by repeat first | exact List.Sublist.refl _ | exact List.nil_sublist _ | apply List.Sublist.cons_cons | apply List.Sublist.cons)) ?_
          refine DL.take (i := 4) [] rfl (by kernel_rfl) (by kernel_rfl) (by kernel_rfl) (by kernel_rfl) rfl rfl (fun u H => x_move ) (SH.sub H (by repeat first | exact List.Sublist.refl _ | exact List.nil_sublist _ | apply List.Sublist.cons_cons | apply List.Sublist.cons)) ?_
          refine DL.take (i := 5) [] rfl (by kernel_rfl) (by kernel_rfl) (by kernel_rfl) (by kernel_rfl) rfl rfl (fun u H => x_loadA Try.isAgg107 Try.sizeOf107 rfl (by first | exact SH.cells H (by (repeat first | exact At.here | apply At.there); done)) (by rfl)) (SH.sub H (by repeat first | exact List.Sublist.refl _ | exact List.nil_sublist _ | apply List.Sublist.cons_cons | apply List.Sublist.cons)) ?_
          refine DL.one (i := 6) (by kernel_rfl) rfl rfl ?_
          refine r_mapUpdate (u := (⟨z1, ⟨z2, z3, ⟨z4, z5⟩, z6, z7⟩, z8⟩ : Ty)) Try.underlying102 Try.underlying3 rfl rfl rfl rfl (SH.prop H (i := 1) rfl) ?_
          intro w18_6 hs18 he18 hm18
          replace H := SH.wroteM H (i := 1) rfl rfl hs18 he18 mp_st hm18
          refine LW.nil (thenE_norm ⟨fun _ => (SH.sub H (by repeat first | exact List.Sublist.refl _ | exact List.nil_sublist _ | apply List.Sublist.cons_cons | apply List.Sublist.cons)), ?_⟩)
          refine DL.done (by kernel_rfl) ?_
          refine thenE_norm ?_
          refine cut (K := K38) [] (fun σ => ?_)
          simp only [setL, keepE, upd_get, ev, Nat.reduceEqDiff, ↓reduceIte]
          refine h38 _ _ ?_; clear h38; try clear K38
          refine CW.seq (fun K39 h39 => ?_)
          refine CW.region ?_
          refine r_assign rfl ?_
          refine LW.nil ?_
          refine thenE_norm (h39 _ _ ?_); clear h39; try clear K39
          refine CW.ret (ret1 Try.results23 (by simp only [upd_get, ev, Nat.reduceEqDiff, ↓reduceIte]; rfl) ?_)
          have hsame := insF_same hup hs hc
          have hkv : setM (kvT l) sl (⟨z1, ⟨z2, z3, ⟨z4, z5⟩, z6, z7⟩, z8⟩ : Ty) = kvT (l1 ++ (⟨sl, ⟨z1, ⟨z2, z3, ⟨z4, z5⟩, z6, z7⟩, z8⟩, insF tm i, tq, tf⟩ : TG) :: l2) := by rw [q6]; simp [kvT]
          rw [hkv] at H
          have H8 := SH.sel H [2, 3, 4, 0, 1] (by decide) rfl
          rw [← hsame] at H8
          obtain ⟨F9, H9⟩ := SH.gather (t := ⟨sl, ⟨z1, ⟨z2, z3, ⟨z4, z5⟩, z6, z7⟩, z8⟩, insF tm i, tq, tf⟩) (l' := l1 ++ (⟨sl, ⟨z1, ⟨z2, z3, ⟨z4, z5⟩, z6, z7⟩, z8⟩, insF tm i, tq, tf⟩ : TG) :: l2) H8 List.perm_middle
          obtain ⟨FN', K⟩ := LrnA.mk hok' (by rw [q7]; simp [msT]) (fun u hu => by
            rcases List.mem_append.1 hu with hu | hu
            · exact q5 u (by simp [hu])
            · rcases List.mem_cons.1 hu with rfl | hu
              · exact q2
              · exact q5 u (by simp [hu])) (SH.sel H9 [1, 2, 0] (by decide) rfl)
          exact ⟨_, rfl, K⟩
        · rw [hin]
          refine CW.region ?_
          refine r_move rfl ?_
          refine r_not rfl rfl ?_
          refine LW.nil ?_
          refine thenE_norm (h37 _ _ ?_); clear h37; try clear K37
          refine CW.condT rfl (by first | rfl | (simp only [decide_eq_true_eq, decide_eq_false_iff_not, Bool.and_eq_true, Bool.or_eq_true, Bool.and_eq_false_iff, Bool.or_eq_false_iff, Bool.not_eq_true', Bool.not_eq_false', beq_iff_eq, bne_iff_ne]; omega) | simp_all) ?_
          refine CW.region ?_
          refine r_fieldAddrO rfl Try.underlying107 rfl Try.sizeOf41 (by decide) (show _ = 7 from rfl) rfl ?_
          refine r_load rfl Try.isAgg41 rfl (by first | exact SH.cellB H (by (repeat first | exact At.here | apply At.there); done) (by rfl) | assumption) ?_
          refine r_move rfl ?_
          refine r_move rfl ?_
          refine r_buildSlice rfl Try.underlying41 Try.sizeOf3 Try.zeroValue3 rfl rfl rfl (by simp only [List.map_cons, List.map_nil, List.toList_toArray, List.foldl_cons, List.foldl_nil, List.replicate_succ, List.replicate_zero, List.set_cons_zero, List.set_cons_succ, upd_get, ev, Nat.reduceEqDiff, ↓reduceIte] <;> rfl) ?_
          intro b17_4 w17_4 hb17_4 hs17_4 hE17_4 hB17_4
          replace H := SH.call H (SH.fromB hE17_4 hb17_4 hs17_4 hB17_4)
          clear hb17_4 hs17_4 hE17_4 hB17_4
          try dsimp only [replC, List.cons_append, List.nil_append, List.append_nil, agg, cellsL, Value.cells, List.toList_toArray, List.set_cons_zero, List.set_cons_succ, spliceL, List.take_succ_cons, List.take_zero, List.drop_succ_cons, List.drop_zero, List.length_cons, List.length_nil, Nat.reduceAdd, Row.cells, Cm.L, Rq.L, Tp.L, Bat.L, Ty.L] at H
          replace H := SH.row (b := b17_4) (xs := ([i] : List Int)) (n := 1) (cap := 1) H (by (repeat first | exact At.here | apply At.there); done) (by rfl) (by intro x hx; first | rfl | (simp at hx; done) | (simp only [List.mem_cons, List.not_mem_nil, or_false] at hx; rcases hx with rfl <;> first | rfl | exact (by first | rfl | assumption | exact Rs.oneC (by first | assumption | exact SH.rsR H (by (repeat first | exact At.here | apply At.there); done) | exact SH.rsO H (by (repeat first | exact At.here | apply At.there); done) | exact (Rs.nil : Rs Non _ _ _)) | (simp only [List.all_cons, List.all_nil, Bool.and_true, Bool.and_eq_true, Row.cells, Cm.L, Rq.L, Tp.L, Bat.L, Ty.L]; (repeat' constructor) <;> first | rfl | assumption | exact Rs.oneC (by first | assumption | exact SH.rsR H (by (repeat first | exact At.here | apply At.there); done) | exact SH.rsO H (by (repeat first | exact At.here | apply At.there); done) | exact (Rs.nil : Rs Non _ _ _)))))) (by rfl) rfl (by decide)
          try dsimp only [replC, List.cons_append, List.nil_append, List.append_nil, agg, cellsL, Value.cells, List.toList_toArray, List.set_cons_zero, List.set_cons_succ, spliceL, List.take_succ_cons, List.take_zero, List.drop_succ_cons, List.drop_zero, List.length_cons, List.length_nil, Nat.reduceAdd, Row.cells, Cm.L, Rq.L, Tp.L, Bat.L, Ty.L] at H
          refine r_call rfl Try.call68 (by simp only [List.map_cons, List.map_nil, List.map_toArray, List.toList_toArray, upd_get, ev, Nat.reduceEqDiff, ↓reduceIte] <;> rfl) (InsI_c (y := i) (atK idK tm.frm i) _ (SH.ow H (i := 4) rfl) (SH.ow H (i := 6) rfl) (fun b h1 h2 => (SH.val H).apart (i := 4) (j := 6) rfl rfl (by decide) (.inl trivial) b h2 h1) hat (by omega)) ?_
          rintro _ w17_5 ⟨v17_5, g17_5, rfl, K⟩
          refine ⟨_, rfl, ?_⟩
          replace H := SH.updO H (i := 4) rfl K
          clear K
          try dsimp only [replC, List.cons_append, List.nil_append, List.append_nil] at H
          refine r_fieldAddrO rfl Try.underlying107 rfl Try.sizeOf41 (by decide) (show _ = 7 from rfl) rfl ?_
          refine s_store H Try.sizeOf41 rfl (by simp only [upd_get, ev, Nat.reduceEqDiff, ↓reduceIte] <;> rfl) (by first | rfl | assumption | exact Rs.oneC (by first | assumption | exact SH.rsR H (by (repeat first | exact At.here | apply At.there); done) | exact SH.rsO H (by (repeat first | exact At.here | apply At.there); done) | exact (Rs.nil : Rs Non _ _ _)) | (simp only [List.all_cons, List.all_nil, Bool.and_true, Bool.and_eq_true, Row.cells, Cm.L, Rq.L, Tp.L, Bat.L, Ty.L]; (repeat' constructor) <;> first | rfl | assumption | exact Rs.oneC (by first | assumption | exact SH.rsR H (by (repeat first | exact At.here | apply At.there); done) | exact SH.rsO H (by (repeat first | exact At.here | apply At.there); done) | exact (Rs.nil : Rs Non _ _ _)))) (by (repeat first | exact At.here | apply At.there); done) (by first | (simp; done) | decide | omega) ?_
          clear H
          intro w17_7 H
          try dsimp only [replC, List.cons_append, List.nil_append, List.append_nil, agg, cellsL, Value.cells, List.toList_toArray, List.set_cons_zero, List.set_cons_succ, spliceL, List.take_succ_cons, List.take_zero, List.drop_succ_cons, List.drop_zero, List.length_cons, List.length_nil, Nat.reduceAdd, Row.cells, Cm.L, Rq.L, Tp.L, Bat.L, Ty.L] at H
          refine LW.nil ?_
          refine thenE_norm ?_
          refine cut (K := K35) [0, 3, 11] (fun σ => ?_)
          simp only [setL, keepE, upd_get, ev, Nat.reduceEqDiff, ↓reduceIte]
          refine h35 _ _ ?_; clear h35; try clear K35
          refine CW.seq (fun K40 h40 => ?_)
          refine CW.drawP [0, 5] [] H (by dsimp only [pickC, nthC] <;> rfl) (by repeat first | exact List.Sublist.refl _ | exact List.nil_sublist _ | apply List.Sublist.cons_cons | apply List.Sublist.cons) (by kernel_rfl) rfl ?_
          clear H
          intro w18d H
          refine DL.take (i := 0) [] rfl (by kernel_rfl) (by kernel_rfl) (by kernel_rfl) (by kernel_rfl) rfl rfl (fun u H => x_move ) (SH.sub H (by repeat first | exact List.Sublist.refl _ | exact List.nil_sublist _ | apply List.Sublist.cons_cons | apply List.Sublist.cons)) ?_
          refine DL.take (i := 1) [] rfl (by kernel_rfl) (by kernel_rfl) (by kernel_rfl) (by kernel_rfl) rfl rfl (fun u H => x_nilCheck rfl) (SH.sub H (by repeat first | exact List.Sublist.refl _ | exact List.nil_sublist _ | apply List.Sublist.cons_cons | apply List.Sublist.cons)) ?_
          refine DL.take (i := 2) [] rfl (by kernel_rfl) (by kernel_rfl) (by kernel_rfl) (by kernel_rfl) rfl rfl (fun u H => x_fieldAddrO Try.underlying104 rfl Try.sizeOf102 (by decide) (show _ = 2 from rfl) rfl) (SH.sub H (by repeat first | exact List.Sublist.refl _ | exact List.nil_sublist _ | apply List.Sublist.cons_cons | apply List.Sublist.cons)) ?_
          refine DL.take (i := 3) [] rfl (by kernel_rfl) (by kernel_rfl) (by kernel_rfl) (by kernel_rfl) rfl rfl (fun u H => x_load Try.isAgg102 rfl (by first | exact SH.cellB H (by (repeat first | exact At.here | apply At.there); done) (by rfl) | exact SH.cellI H (by (repeat first | exact At.here | apply At.there); done) (by rfl) | assumption)) (SH.sub H (by repeat first | exact List.Sublist.refl _ | exact List.nil_sublist _ | apply List.Sublist.cons_cons | apply List.Sublist.cons)) ?_
          refine DL.take (i := 4) [] rfl (by kernel_rfl) (by kernel_rfl) (by kernel_rfl) (by kernel_rfl) rfl rfl (fun u H => x_move ) (SH.sub H (by repeat first | exact List.Sublist.refl _ | exact List.nil_sublist _ | apply List.Sublist.cons_cons | apply List.Sublist.cons)) ?_
          refine DL.take (i := 5) [] rfl (by kernel_rfl) (by kernel_rfl) (by kernel_rfl) (by kernel_rfl) rfl rfl (fun u H => x_loadA Try.isAgg107 Try.sizeOf107 rfl (by first | exact SH.cells H (by (repeat first | exact At.here | apply At.there); done)) (by rfl)) (SH.sub H (by repeat first | exact List.Sublist.refl _ | exact List.nil_sublist _ | apply List.Sublist.cons_cons | apply List.Sublist.cons)) ?_
          refine DL.one (i := 6) (by kernel_rfl) rfl rfl ?_
          refine r_mapUpdate (u := (⟨z1, ⟨z2, z3, ⟨z4, z5⟩, z6, z7⟩, v17_5⟩ : Ty)) Try.underlying102 Try.underlying3 rfl rfl rfl rfl (SH.prop H (i := 1) rfl) ?_
          intro w18_6 hs18 he18 hm18
          replace H := SH.wroteM H (i := 1) rfl rfl hs18 he18 mp_st hm18
          refine LW.nil (thenE_norm ⟨fun _ => (SH.sub H (by repeat first | exact List.Sublist.refl _ | exact List.nil_sublist _ | apply List.Sublist.cons_cons | apply List.Sublist.cons)), ?_⟩)
          refine DL.done (by kernel_rfl) ?_
          refine thenE_norm ?_
          refine cut (K := K40) [] (fun σ => ?_)
          simp only [setL, keepE, upd_get, ev, Nat.reduceEqDiff, ↓reduceIte]
          refine h40 _ _ ?_; clear h40; try clear K40
          refine CW.seq (fun K41 h41 => ?_)
          refine CW.region ?_
          refine r_assign rfl ?_
          refine LW.nil ?_
          refine thenE_norm (h41 _ _ ?_); clear h41; try clear K41
          refine CW.ret (ret1 Try.results23 (by simp only [upd_get, ev, Nat.reduceEqDiff, ↓reduceIte]; rfl) ?_)
          have hins : tm.frm.take (atK idK tm.frm i) ++ [i] ++ tm.frm.drop (atK idK tm.frm i) = putK idK tm.frm i := (putK_out (m := i) hup hno).symm
          have hkv : setM (kvT l) sl (⟨z1, ⟨z2, z3, ⟨z4, z5⟩, z6, z7⟩, v17_5⟩ : Ty) = kvT (l1 ++ (⟨sl, ⟨z1, ⟨z2, z3, ⟨z4, z5⟩, z6, z7⟩, v17_5⟩, insF tm i, tq, g17_5⟩ : TG) :: l2) := by rw [q6]; simp [kvT]
          rw [hkv] at H
          have H8 := SH.sel H [2, 3, 4, 0, 1] (by decide) rfl
          rw [hins] at H8
          obtain ⟨F9, H9⟩ := SH.gather (t := ⟨sl, ⟨z1, ⟨z2, z3, ⟨z4, z5⟩, z6, z7⟩, v17_5⟩, insF tm i, tq, g17_5⟩) (l' := l1 ++ (⟨sl, ⟨z1, ⟨z2, z3, ⟨z4, z5⟩, z6, z7⟩, v17_5⟩, insF tm i, tq, g17_5⟩ : TG) :: l2) H8 List.perm_middle
          obtain ⟨FN', K⟩ := LrnA.mk hok' (by rw [q7]; simp [msT]) (fun u hu => by
            rcases List.mem_append.1 hu with hu | hu
            · exact q5 u (by simp [hu])
            · rcases List.mem_cons.1 hu with rfl | hu
              · exact q2
              · exact q5 u (by simp [hu])) (SH.sel H9 [1, 2, 0] (by decide) rfl)
          exact ⟨_, rfl, K⟩
end Go.Proofs.Ytalieccfdmokmaa
