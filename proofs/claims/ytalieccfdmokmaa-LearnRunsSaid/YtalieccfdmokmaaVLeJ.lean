/-
  The walks of layer 15's functions, the fifth part: the document's learner hears.
-/
import Derived.Test.YtalieccfdmokmaaVLeI
namespace Go.Proofs.Ytalieccfdmokmaa
set_option linter.unusedSimpArgs false
set_option linter.unusedVariables false
set_option maxRecDepth 20000
open Go.V Go.RowKit Go.ChangeShapes Go.WideShapes

set_option maxHeartbeats 32000000 in
theorem RHear_c {FI F2 FR : Nat → Prop} {p : Nat} {s : LnS} {raws : List Sd} (i b sl : Int) (x : Bat) {rs : List Rq} (w : World) (hok : OkL s) (hR : RLnA p s.n s.done raws FR w) (hm : SdA FI s.n raws s.heard w) (hI : ∀ k, FI k → ¬ FR k) (hlt : ∀ k, FI k → k < w.heap.size)
    (hb : Rs F2 w x.reqs rs) (hd : ∀ k, F2 k → ¬ FR k) (hlen : raws.length ≤ 1000) :
    Calls Try.prog 36 #[.pointer (some ⟨p, 0, none⟩), .int .i64 i, .int .i64 b, .int .i64 sl, agg x] w fun e w' => ∃ (raws' : List Sd) (vw : Value) (ws : List Int) (gw : Option Nat) (FR' : Nat → Prop), e = .returned (.int .i64 (hearM s i b sl x rs).2) ∧
      SH FR Non w w' [.P FR' (RLnA p s.n s.done raws' FR'), .O 3 vw ws gw] ∧ (∀ (K : Nat → Prop) (u : World), SdA K s.n raws s.heard u → Rs K u vw ws → Rs K u x.reqs rs → SdA K s.n raws' (hearM s i b sl x rs).1.heard u) := by
  obtain ⟨v, g, hA⟩ := hR
  obtain ⟨x1, x2, ⟨x3, x4⟩, x5, x6⟩ := x
  dsimp only at hb
  have H := SH.argI (SH.argU (SH.obj (G := Any) hA) hb hd) (A := SdA FI s.n raws s.heard) hm sd_st hlt hI
  have ho6 : oneC x6 = true := Rs.oneC hb
  obtain ⟨s1, s2, s3⟩ := s
  dsimp only at H hm ⊢
  have hnd : (s3.map (·.1)).Nodup := hok.nd
  have hn0 : 1 ≤ s1 := hok.n0
  have hn1 : s1 ≤ 7 := hok.n1
  have hd0 : 0 ≤ s2 := hok.d0
  have hd1 : s2 ≤ 2305843009213693952 := hok.d1
  have l1 := All2.len hm
  refine calls_of_CW Try.func36 rfl Try.ntmps36 (Nat.le_of_ble_eq_true rfl) ?_
  simp only [argE, argFrom, Nat.reduceAdd]
  refine CW.seq (fun K1 h1 => ?_)
  refine CW.region ?_
  refine s_box H rfl (by simp only [upd_get, ev, Nat.reduceEqDiff, ↓reduceIte] <;> rfl) rfl ?_
  clear H
  intro b0_0 w0_0 H
  try dsimp only [replC, List.cons_append, List.nil_append, List.append_nil, agg, cellsL, Value.cells, List.toList_toArray, List.set_cons_zero, List.set_cons_succ, spliceL, List.take_succ_cons, List.take_zero, List.drop_succ_cons, List.drop_zero, List.length_cons, List.length_nil, Nat.reduceAdd, Row.cells, Cm.L, Rq.L, Tp.L, Bat.L, Ty.L, Sd.L] at H
  refine r_assign rfl ?_
  refine LW.nil ?_
  refine thenE_norm (h1 _ _ ?_); clear h1; try clear K1
  refine CW.seq (fun K2 h2 => ?_)
  refine CW.seq (fun K3 h3 => ?_)
  refine CW.region ?_
  refine r_move rfl ?_
  refine r_lss rfl rfl rfl ?_
  refine r_move rfl ?_
  refine' LW.grpOr (n := 7) (ts := [0, 1, 2, 3, 9, 26, 31, 36]) (d := 25) (tj := 18) rfl (fun hg1_3 => ?_) (fun hg1_3 => ?_) (fun σ => ?_)
  rotate_left
  · simp only [List.take_succ_cons, List.take_zero]
    have hg1_3P := hg1_3
    try simp only [decide_eq_true_eq, decide_eq_false_iff_not, Bool.and_eq_true, Bool.or_eq_true, Bool.and_eq_false_iff, Bool.or_eq_false_iff, Bool.not_eq_true', Bool.not_eq_false', beq_iff_eq, bne_iff_ne] at hg1_3P
    refine LW.want rfl rfl hg1_3 ?_
    refine r_move rfl ?_
    refine LW.want rfl rfl hg1_3 ?_
    refine r_move rfl ?_
    refine LW.want rfl rfl hg1_3 ?_
    refine r_nilCheck rfl rfl ?_
    refine LW.want rfl rfl hg1_3 ?_
    refine r_fieldAddrO rfl Try.underlying71 rfl Try.sizeOf3 (by decide) (show _ = 0 from rfl) rfl ?_
    refine LW.want rfl rfl hg1_3 ?_
    refine r_load rfl Try.isAgg3 rfl (by first | exact SH.cellB H (by (repeat first | exact At.here | apply At.there); done) (by rfl) | exact SH.cellI H (by (repeat first | exact At.here | apply At.there); done) (by rfl) | assumption) ?_
    refine LW.want rfl rfl hg1_3 ?_
    refine r_geq rfl rfl rfl ?_
    refine r_pickF rfl rfl hg1_3 ?_
    refine LW.nil (thenE_norm ⟨rfl, rfl, rfl⟩)
  · simp only [List.take_succ_cons, List.take_zero]
    refine LW.skip rfl (fun _ e => by cases e; decide) rfl hg1_3 ?_
    refine LW.skip rfl (fun _ e => by cases e; decide) rfl hg1_3 ?_
    refine LW.skip rfl (fun _ e => by cases e; decide) rfl hg1_3 ?_
    refine LW.skip rfl (fun _ e => by cases e; decide) rfl hg1_3 ?_
    refine LW.skip rfl (fun _ e => by cases e; decide) rfl hg1_3 ?_
    refine LW.skip rfl (fun _ e => by cases e; decide) rfl hg1_3 ?_
    refine r_pickT rfl rfl hg1_3 ?_
    refine LW.nil (thenE_norm ⟨rfl, rfl, rfl⟩)
  simp only [setL, keepE, upd_get, ev, Nat.reduceEqDiff, ↓reduceIte]; simp only [List.drop_succ_cons, List.drop_zero]
  refine r_move rfl ?_
  refine LW.splitB (t := 26) rfl (fun hg1_11 => ?_) (fun hg1_11 => ?_)
  · have hg1_11P := hg1_11
    try simp only [decide_eq_true_eq, decide_eq_false_iff_not, Bool.and_eq_true, Bool.or_eq_true, Bool.and_eq_false_iff, Bool.or_eq_false_iff, Bool.not_eq_true', Bool.not_eq_false', beq_iff_eq, bne_iff_ne] at hg1_11P
    refine LW.skip rfl (fun _ e => by cases e; decide) rfl hg1_11 ?_
    refine LW.skip rfl (fun _ e => by cases e; decide) rfl hg1_11 ?_
    refine LW.skip rfl (fun _ e => by cases e; decide) rfl hg1_11 ?_
    refine r_pickT rfl rfl hg1_11 ?_
    refine r_move rfl ?_
    refine LW.known (t := 31) (c := true) rfl (by first | assumption | rfl) (fun hg1_16 => ?_)
    refine LW.skip rfl (fun _ e => by cases e; decide) rfl hg1_16 ?_
    refine LW.skip rfl (fun _ e => by cases e; decide) rfl hg1_16 ?_
    refine LW.skip rfl (fun _ e => by cases e; decide) rfl hg1_16 ?_
    refine r_pickT rfl rfl hg1_16 ?_
    refine r_move rfl ?_
    refine LW.known (t := 36) (c := true) rfl (by first | assumption | rfl) (fun hg1_21 => ?_)
    refine LW.skip rfl (fun _ e => by cases e; decide) rfl hg1_21 ?_
    refine LW.skip rfl (fun _ e => by cases e; decide) rfl hg1_21 ?_
    refine LW.skip rfl (fun _ e => by cases e; decide) rfl hg1_21 ?_
    refine r_pickT rfl rfl hg1_21 ?_
    refine LW.nil ?_
    refine thenE_norm (h3 _ _ ?_); clear h3; try clear K3
    refine CW.condT rfl (by first | rfl | (simp only [decide_eq_true_eq, decide_eq_false_iff_not, Bool.and_eq_true, Bool.or_eq_true, Bool.and_eq_false_iff, Bool.or_eq_false_iff, Bool.not_eq_true', Bool.not_eq_false', beq_iff_eq, bne_iff_ne]; omega) | simp_all) ?_
    refine CW.seq (fun K4 h4 => ?_)
    refine CW.region ?_
    refine r_assign rfl ?_
    refine LW.nil ?_
    refine thenE_norm (h4 _ _ ?_); clear h4; try clear K4
    refine CW.ret (thenE_ret (ret1 Try.results36 (by simp only [upd_get, ev, Nat.reduceEqDiff, ↓reduceIte]; rfl) ?_))
    have hno : ¬ askL ⟨s1, s2, s3⟩ i b sl ⟨x1, x2, ⟨x3, x4⟩, x5, x6⟩ rs := by
      rintro ⟨⟨k1, k2⟩, -⟩
      dsimp only at k1 k2
      rcases hg1_11P with h | h <;> omega
    rw [hear_no hno]
    obtain ⟨FN', K⟩ := RLnA.mk2 (SH.sel (H.addO (α := Int) 3) [0, 1, 5] (by decide) rfl)
    exact ⟨_, _, _, _, _, rfl, K, fun K u h _ _ => h⟩
  · have hg1_11P := hg1_11
    try simp only [decide_eq_true_eq, decide_eq_false_iff_not, Bool.and_eq_true, Bool.or_eq_true, Bool.and_eq_false_iff, Bool.or_eq_false_iff, Bool.not_eq_true', Bool.not_eq_false', beq_iff_eq, bne_iff_ne] at hg1_11P
    refine LW.want rfl rfl hg1_11 ?_
    refine r_move rfl ?_
    refine LW.want rfl rfl hg1_11 ?_
    refine r_call rfl Try.call79 (by simp only [List.map_cons, List.map_nil, List.map_toArray, List.toList_toArray, upd_get, ev, Nat.reduceEqDiff, ↓reduceIte] <;> rfl) (high12_c _ _ _) ?_
    rintro _ _ ⟨rfl, rfl⟩
    refine ⟨_, rfl, ?_⟩
    refine LW.want rfl rfl hg1_11 ?_
    refine r_not rfl rfl ?_
    refine r_pickF rfl rfl hg1_11 ?_
    refine r_move rfl ?_
    refine LW.splitB (t := 31) rfl (fun hg1_16 => ?_) (fun hg1_16 => ?_)
    · have hg1_16P := hg1_16
      try simp only [decide_eq_true_eq, decide_eq_false_iff_not, Bool.and_eq_true, Bool.or_eq_true, Bool.and_eq_false_iff, Bool.or_eq_false_iff, Bool.not_eq_true', Bool.not_eq_false', beq_iff_eq, bne_iff_ne] at hg1_16P
      refine LW.skip rfl (fun _ e => by cases e; decide) rfl hg1_16 ?_
      refine LW.skip rfl (fun _ e => by cases e; decide) rfl hg1_16 ?_
      refine LW.skip rfl (fun _ e => by cases e; decide) rfl hg1_16 ?_
      refine r_pickT rfl rfl hg1_16 ?_
      refine r_move rfl ?_
      refine LW.known (t := 36) (c := true) rfl (by first | assumption | rfl) (fun hg1_21 => ?_)
      refine LW.skip rfl (fun _ e => by cases e; decide) rfl hg1_21 ?_
      refine LW.skip rfl (fun _ e => by cases e; decide) rfl hg1_21 ?_
      refine LW.skip rfl (fun _ e => by cases e; decide) rfl hg1_21 ?_
      refine r_pickT rfl rfl hg1_21 ?_
      refine LW.nil ?_
      refine thenE_norm ?_
      refine cut (K := K3) [0, 1, 2, 3, 9, 40] (fun σ => ?_)
      simp only [setL, keepE, upd_get, ev, Nat.reduceEqDiff, ↓reduceIte]
      refine h3 _ _ ?_; clear h3; try clear K3
      refine CW.condT rfl (by first | rfl | (simp only [decide_eq_true_eq, decide_eq_false_iff_not, Bool.and_eq_true, Bool.or_eq_true, Bool.and_eq_false_iff, Bool.or_eq_false_iff, Bool.not_eq_true', Bool.not_eq_false', beq_iff_eq, bne_iff_ne]; omega) | simp_all) ?_
      refine CW.seq (fun K5 h5 => ?_)
      refine CW.region ?_
      refine r_assign rfl ?_
      refine LW.nil ?_
      refine thenE_norm (h5 _ _ ?_); clear h5; try clear K5
      refine CW.ret (thenE_ret (ret1 Try.results36 (by simp only [upd_get, ev, Nat.reduceEqDiff, ↓reduceIte]; rfl) ?_))
      have hno : ¬ askL ⟨s1, s2, s3⟩ i b sl ⟨x1, x2, ⟨x3, x4⟩, x5, x6⟩ rs := by
        rintro ⟨-, k3, -⟩
        rw [k3] at hg1_16P; cases hg1_16P
      rw [hear_no hno]
      obtain ⟨FN', K⟩ := RLnA.mk2 (SH.sel (H.addO (α := Int) 3) [0, 1, 5] (by decide) rfl)
      exact ⟨_, _, _, _, _, rfl, K, fun K u h _ _ => h⟩
    · have hg1_16P := hg1_16
      try simp only [decide_eq_true_eq, decide_eq_false_iff_not, Bool.and_eq_true, Bool.or_eq_true, Bool.and_eq_false_iff, Bool.or_eq_false_iff, Bool.not_eq_true', Bool.not_eq_false', beq_iff_eq, bne_iff_ne] at hg1_16P
      refine LW.want rfl rfl hg1_16 ?_
      refine r_move rfl ?_
      refine LW.want rfl rfl hg1_16 ?_
      refine r_call rfl Try.call79 (by simp only [List.map_cons, List.map_nil, List.map_toArray, List.toList_toArray, upd_get, ev, Nat.reduceEqDiff, ↓reduceIte] <;> rfl) (high12_c _ _ _) ?_
      rintro _ _ ⟨rfl, rfl⟩
      refine ⟨_, rfl, ?_⟩
      refine LW.want rfl rfl hg1_16 ?_
      refine r_not rfl rfl ?_
      refine r_pickF rfl rfl hg1_16 ?_
      refine r_move rfl ?_
      refine LW.splitB (t := 36) rfl (fun hg1_21 => ?_) (fun hg1_21 => ?_)
      · have hg1_21P := hg1_21
        try simp only [decide_eq_true_eq, decide_eq_false_iff_not, Bool.and_eq_true, Bool.or_eq_true, Bool.and_eq_false_iff, Bool.or_eq_false_iff, Bool.not_eq_true', Bool.not_eq_false', beq_iff_eq, bne_iff_ne] at hg1_21P
        refine LW.skip rfl (fun _ e => by cases e; decide) rfl hg1_21 ?_
        refine LW.skip rfl (fun _ e => by cases e; decide) rfl hg1_21 ?_
        refine LW.skip rfl (fun _ e => by cases e; decide) rfl hg1_21 ?_
        refine r_pickT rfl rfl hg1_21 ?_
        refine LW.nil ?_
        refine thenE_norm ?_
        refine cut (K := K3) [0, 1, 2, 3, 9, 40] (fun σ => ?_)
        simp only [setL, keepE, upd_get, ev, Nat.reduceEqDiff, ↓reduceIte]
        refine h3 _ _ ?_; clear h3; try clear K3
        refine CW.condT rfl (by first | rfl | (simp only [decide_eq_true_eq, decide_eq_false_iff_not, Bool.and_eq_true, Bool.or_eq_true, Bool.and_eq_false_iff, Bool.or_eq_false_iff, Bool.not_eq_true', Bool.not_eq_false', beq_iff_eq, bne_iff_ne]; omega) | simp_all) ?_
        refine CW.seq (fun K6 h6 => ?_)
        refine CW.region ?_
        refine r_assign rfl ?_
        refine LW.nil ?_
        refine thenE_norm (h6 _ _ ?_); clear h6; try clear K6
        refine CW.ret (thenE_ret (ret1 Try.results36 (by simp only [upd_get, ev, Nat.reduceEqDiff, ↓reduceIte]; rfl) ?_))
        have hno : ¬ askL ⟨s1, s2, s3⟩ i b sl ⟨x1, x2, ⟨x3, x4⟩, x5, x6⟩ rs := by
          rintro ⟨-, -, ⟨k4, k5⟩, -⟩
          have := highM_t.2 ⟨k4, k5⟩
          rw [this] at hg1_21P; cases hg1_21P
        rw [hear_no hno]
        obtain ⟨FN', K⟩ := RLnA.mk2 (SH.sel (H.addO (α := Int) 3) [0, 1, 5] (by decide) rfl)
        exact ⟨_, _, _, _, _, rfl, K, fun K u h _ _ => h⟩
      · have hg1_21P := hg1_21
        try simp only [decide_eq_true_eq, decide_eq_false_iff_not, Bool.and_eq_true, Bool.or_eq_true, Bool.and_eq_false_iff, Bool.or_eq_false_iff, Bool.not_eq_true', Bool.not_eq_false', beq_iff_eq, bne_iff_ne] at hg1_21P
        refine LW.want rfl rfl hg1_21 ?_
        refine r_loadA rfl Try.isAgg27 Try.sizeOf27 rfl (by first | exact SH.cells H (by (repeat first | exact At.here | apply At.there); done)) (by rfl) ?_
        refine LW.want rfl rfl hg1_21 ?_
        refine r_call rfl Try.call45 (by simp only [List.map_cons, List.map_nil, List.map_toArray, List.toList_toArray, upd_get, ev, Nat.reduceEqDiff, ↓reduceIte] <;> rfl) (MayBatR_c ⟨_, _, ⟨_, _⟩, _, _⟩ _ (SH.rsR H (i := 2) rfl)) ?_
        rintro _ w1_22 ⟨rfl, X⟩
        refine ⟨_, rfl, ?_⟩
        replace H := SH.same H X
        clear X
        refine LW.want rfl rfl hg1_21 ?_
        refine r_not rfl rfl ?_
        refine r_pickF rfl rfl hg1_21 ?_
        refine LW.nil ?_
        refine thenE_norm ?_
        refine cut (K := K3) [0, 1, 2, 3, 9, 40] (fun σ => ?_)
        simp only [setL, keepE, upd_get, ev, Nat.reduceEqDiff, ↓reduceIte]
        refine h3 _ _ ?_; clear h3; try clear K3
        refine CW.cond rfl (fun hc1 => ?_) (fun hc1 => ?_)
        · try simp only [decide_eq_true_eq, decide_eq_false_iff_not, Bool.and_eq_true, Bool.or_eq_true, Bool.and_eq_false_iff, Bool.or_eq_false_iff, Bool.not_eq_true', Bool.not_eq_false', beq_iff_eq, bne_iff_ne, ne_eq, Decidable.not_not] at hc1
          refine CW.seq (fun K7 h7 => ?_)
          refine CW.region ?_
          refine r_assign rfl ?_
          refine LW.nil ?_
          refine thenE_norm (h7 _ _ ?_); clear h7; try clear K7
          refine CW.ret (thenE_ret (ret1 Try.results36 (by simp only [upd_get, ev, Nat.reduceEqDiff, ↓reduceIte]; rfl) ?_))
          have hno : ¬ askL ⟨s1, s2, s3⟩ i b sl ⟨x1, x2, ⟨x3, x4⟩, x5, x6⟩ rs := fun q => Bool.false_ne_true (hc1.symm.trans q.2.2.2)
          rw [hear_no hno]
          obtain ⟨FN', K⟩ := RLnA.mk2 (SH.sel (H.addO (α := Int) 3) [0, 1, 5] (by decide) rfl)
          exact ⟨_, _, _, _, _, rfl, K, fun K u h _ _ => h⟩
        · try simp only [decide_eq_true_eq, decide_eq_false_iff_not, Bool.and_eq_true, Bool.or_eq_true, Bool.and_eq_false_iff, Bool.or_eq_false_iff, Bool.not_eq_true', Bool.not_eq_false', beq_iff_eq, bne_iff_ne, ne_eq, Decidable.not_not] at hc1
          have hsl := highM_t.1 hg1_21P
          have hgo : askL ⟨s1, s2, s3⟩ i b sl ⟨x1, x2, ⟨x3, x4⟩, x5, x6⟩ rs := ⟨⟨by omega, show i < s1 by omega⟩, hg1_16P, hsl, hc1⟩
          have hbh := highM_t.1 hg1_16P
          have hl3 := mayBat_len hc1
          have hbo := base_ok hok hgo
          have hfl := hbo.len (by dsimp only; omega) hn1
          have hup := hbo.up
          dsimp only at hbo hfl hup
          clear hg1_11P hg1_11 hg1_16 hg1_21
          refine CW.skip ?_
          refine thenE_norm (h2 _ _ ?_); clear h2; try clear K2
          refine CW.seq (fun K8 h8 => ?_)
          refine CW.region ?_
          refine r_move rfl ?_
          refine r_move rfl ?_
          refine r_call rfl Try.call80 (by simp only [List.map_cons, List.map_nil, List.map_toArray, List.toList_toArray, upd_get, ev, Nat.reduceEqDiff, ↓reduceIte] <;> rfl) (at_c _ _ (SH.blk H (i := 0) rfl) (SH.rsO H (i := 1) rfl)) ?_
          rintro _ _ ⟨z, rfl, rfl, hz⟩
          refine ⟨_, rfl, ?_⟩
          refine r_assign rfl ?_
          refine LW.nil ?_
          refine thenE_norm (h8 _ _ ?_); clear h8; try clear K8
          refine CW.seq (fun K9 h9 => ?_)
          refine CW.seq (fun K10 h10 => ?_)
          rcases hz with ⟨rfl, hz⟩ | ⟨q, r, rfl, hr, hrs⟩
          · have hlm : lookM s3 sl = none := look_no fun p hp => by
              obtain ⟨j, hj⟩ := List.mem_iff_getElem?.1 hp
              obtain ⟨y, hy, hyr⟩ := All2.get' hm hj
              have := hz y (List.mem_of_getElem? hy)
              rw [hyr.sl] at this
              exact this
            refine CW.region ?_
            refine r_move rfl ?_
            refine r_move rfl ?_
            refine r_nilCheck rfl rfl ?_
            refine r_fieldAddrO rfl Try.underlying71 rfl Try.sizeOf3 (by decide) (show _ = 1 from rfl) rfl ?_
            refine r_load rfl Try.isAgg3 rfl (by first | exact SH.cellB H (by (repeat first | exact At.here | apply At.there); done) (by rfl) | exact SH.cellI H (by (repeat first | exact At.here | apply At.there); done) (by rfl) | assumption) ?_
            refine r_leq rfl rfl rfl ?_
            refine r_move rfl ?_
            refine LW.splitB (t := 50) rfl (fun hg4_7 => ?_) (fun hg4_7 => ?_)
            · have hg4_7P := hg4_7
              try simp only [decide_eq_true_eq, decide_eq_false_iff_not, Bool.and_eq_true, Bool.or_eq_true, Bool.and_eq_false_iff, Bool.or_eq_false_iff, Bool.not_eq_true', Bool.not_eq_false', beq_iff_eq, bne_iff_ne] at hg4_7P
              refine LW.skip rfl (fun _ e => by cases e; decide) rfl hg4_7 ?_
              refine LW.skip rfl (fun _ e => by cases e; decide) rfl hg4_7 ?_
              refine LW.skip rfl (fun _ e => by cases e; decide) rfl hg4_7 ?_
              refine LW.skipU rfl (fun _ e => by cases e; decide) rfl ?_
              refine LW.skipU rfl (fun _ e => by cases e; decide) rfl ?_
              refine LW.skipU rfl (fun _ e => by cases e; decide) rfl ?_
              refine LW.skipU rfl (fun _ e => by cases e; decide) rfl ?_
              refine LW.skipU rfl (fun _ e => by cases e; decide) rfl ?_
              refine LW.skipU rfl (fun _ e => by cases e; decide) rfl ?_
              refine LW.skipU rfl (fun _ e => by cases e; decide) rfl ?_
              refine LW.skipU rfl (fun _ e => by cases e; decide) rfl ?_
              refine LW.skip rfl (fun _ e => by cases e; decide) rfl hg4_7 ?_
              refine r_pickT rfl rfl hg4_7 ?_
              refine LW.nil ?_
              refine thenE_norm ?_
              refine cut (K := K10) [0, 1, 2, 3, 9, 11, 63] (fun σ => ?_)
              simp only [setL, keepE, upd_get, ev, Nat.reduceEqDiff, ↓reduceIte]
              refine h10 _ _ ?_; clear h10; try clear K10
              refine CW.condT rfl (by first | rfl | (simp only [decide_eq_true_eq, decide_eq_false_iff_not, Bool.and_eq_true, Bool.or_eq_true, Bool.and_eq_false_iff, Bool.or_eq_false_iff, Bool.not_eq_true', Bool.not_eq_false', beq_iff_eq, bne_iff_ne]; omega) | simp_all) ?_
              refine CW.seq (fun K11 h11 => ?_)
              refine CW.region ?_
              refine r_assign rfl ?_
              refine LW.nil ?_
              refine thenE_norm (h11 _ _ ?_); clear h11; try clear K11
              refine CW.ret (thenE_ret (ret1 Try.results36 (by simp only [upd_get, ev, Nat.reduceEqDiff, ↓reduceIte]; rfl) ?_))
              rw [hear_done hgo (.inl (by first | assumption | omega))]
              obtain ⟨FN', K⟩ := RLnA.mk2 (SH.sel (H.addO (α := Int) 3) [0, 1, 5] (by decide) rfl)
              exact ⟨_, _, _, _, _, rfl, K, fun K u h _ _ => h⟩
            · have hg4_7P := hg4_7
              try simp only [decide_eq_true_eq, decide_eq_false_iff_not, Bool.and_eq_true, Bool.or_eq_true, Bool.and_eq_false_iff, Bool.or_eq_false_iff, Bool.not_eq_true', Bool.not_eq_false', beq_iff_eq, bne_iff_ne] at hg4_7P
              refine LW.want rfl rfl hg4_7 ?_
              refine r_move rfl ?_
              refine LW.want rfl rfl hg4_7 ?_
              refine r_geq rfl rfl rfl ?_
              refine LW.want rfl rfl hg4_7 ?_
              refine r_move rfl ?_
              refine LW.known (t := 53) (c := false) rfl (by first | rfl | (simp only [decide_eq_true_eq, decide_eq_false_iff_not, Bool.and_eq_true, Bool.or_eq_true, Bool.and_eq_false_iff, Bool.or_eq_false_iff, Bool.not_eq_true', Bool.not_eq_false', beq_iff_eq, bne_iff_ne]; omega) | simp_all) (fun hg4_10 => ?_)
              refine LW.skip rfl (fun _ e => by cases e; decide) rfl hg4_10 ?_
              refine LW.skip rfl (fun _ e => by cases e; decide) rfl hg4_10 ?_
              refine LW.skip rfl (fun _ e => by cases e; decide) rfl hg4_10 ?_
              refine LW.skip rfl (fun _ e => by cases e; decide) rfl hg4_10 ?_
              refine LW.skip rfl (fun _ e => by cases e; decide) rfl hg4_10 ?_
              refine LW.skip rfl (fun _ e => by cases e; decide) rfl hg4_10 ?_
              refine LW.skip rfl (fun _ e => by cases e; decide) rfl hg4_10 ?_
              refine LW.skip rfl (fun _ e => by cases e; decide) rfl hg4_10 ?_
              refine LW.want rfl rfl hg4_7 ?_
              refine r_pickF rfl rfl hg4_10 ?_
              refine r_pickF rfl rfl hg4_7 ?_
              refine LW.nil ?_
              refine thenE_norm ?_
              refine cut (K := K10) [0, 1, 2, 3, 9, 11, 63] (fun σ => ?_)
              simp only [setL, keepE, upd_get, ev, Nat.reduceEqDiff, ↓reduceIte]
              refine h10 _ _ ?_; clear h10; try clear K10
              refine CW.condF rfl (by first | rfl | (simp only [decide_eq_true_eq, decide_eq_false_iff_not, Bool.and_eq_true, Bool.or_eq_true, Bool.and_eq_false_iff, Bool.or_eq_false_iff, Bool.not_eq_true', Bool.not_eq_false', beq_iff_eq, bne_iff_ne]; omega) | simp_all) ?_
              refine CW.skip ?_
              refine thenE_norm (h9 _ _ ?_); clear h9; try clear K9
              refine CW.seq (fun K12 h12 => ?_)
              refine CW.seq (fun K13 h13 => ?_)
              have hk : ¬ (sl ≤ (⟨s1, s2, s3⟩ : LnS).done ∨ chosenT s1 (lookM s3 sl) = true) := by
                rintro (q | q)
                · dsimp only at q; omega
                · rw [hlm] at q
                  first
                    | cases q; done
                    | (rw [hrch] at hc2; simp at hc2; have q2 := of_decide_eq_true q; omega)
              refine CW.region ?_
              refine r_move rfl ?_
              refine r_move rfl ?_
              refine r_nilCheck rfl rfl ?_
              refine r_fieldAddrO rfl Try.underlying71 rfl Try.sizeOf3 (by decide) (show _ = 1 from rfl) rfl ?_
              refine r_load rfl Try.isAgg3 rfl (by first | exact SH.cellB H (by (repeat first | exact At.here | apply At.there); done) (by rfl) | exact SH.cellI H (by (repeat first | exact At.here | apply At.there); done) (by rfl) | assumption) ?_
              refine r_sub rfl rfl rfl (wr_i64 (by omega) (by omega)) ?_
              refine r_gtr rfl rfl rfl ?_
              refine LW.nil ?_
              refine thenE_norm (h13 _ _ ?_); clear h13; try clear K13
              refine CW.cond rfl (fun hc3 => ?_) (fun hc3 => ?_)
              · try simp only [decide_eq_true_eq, decide_eq_false_iff_not, Bool.and_eq_true, Bool.or_eq_true, Bool.and_eq_false_iff, Bool.or_eq_false_iff, Bool.not_eq_true', Bool.not_eq_false', beq_iff_eq, bne_iff_ne, ne_eq, Decidable.not_not] at hc3
                refine CW.seq (fun K14 h14 => ?_)
                refine CW.region ?_
                refine r_assign rfl ?_
                refine LW.nil ?_
                refine thenE_norm ?_
                refine cut (K := K14) [10] (fun σ => ?_)
                simp only [setL, keepE, upd_get, ev, Nat.reduceEqDiff, ↓reduceIte]
                refine h14 _ _ ?_; clear h14; try clear K14
                refine CW.ret (thenE_ret (ret1 Try.results36 (by simp only [upd_get, ev, Nat.reduceEqDiff, ↓reduceIte]; rfl) ?_))
                rw [hear_full hgo hk (show 9 < sl - s2 by omega)]
                obtain ⟨FN', K⟩ := RLnA.mk2 (SH.sel (H.addO (α := Int) 3) [0, 1, 5] (by decide) rfl)
                exact ⟨_, _, _, _, _, rfl, K, fun K u h _ _ => h⟩
              · try simp only [decide_eq_true_eq, decide_eq_false_iff_not, Bool.and_eq_true, Bool.or_eq_true, Bool.and_eq_false_iff, Bool.or_eq_false_iff, Bool.not_eq_true', Bool.not_eq_false', beq_iff_eq, bne_iff_ne, ne_eq, Decidable.not_not] at hc3
                refine CW.skip ?_
                refine thenE_norm (h12 _ _ ?_); clear h12; try clear K12
                refine CW.seqJ [0, 1, 2, 3, 9] [11] (fun vs w' => ∃ (q : Nat) (u : Value) (raws1 : List Sd) (g1 : Option Nat) (r1 : Sd) (t1 : Tm) (h1 : List (Int × Tm)), vs = [.int .i64 q] ∧ (raws1.length ≤ 1001 ∧ raws1[q]? = some r1 ∧ h1[q]? = some (sl, t1) ∧ (∀ y, setM s3 sl y = h1.set q (sl, y)) ∧
  r1.ballot = t1.ballot ∧ ((lookM s3 sl = none ∧ t1 = tyNew b ⟨x1, x2, ⟨x3, x4⟩, x5, x6⟩ rs) ∨ lookM s3 sl = some t1) ∧ (¬ (sl ≤ (⟨s1, s2, s3⟩ : LnS).done ∨ chosenT s1 (lookM s3 sl) = true) ∧ ¬ 9 < sl - s2) ∧
  (∀ u, SdA FI s1 raws s3 u → Rs FI u r1.who t1.frm) ∧ (∀ (K : Nat → Prop) (u : World), SdA K s1 raws s3 u → Rs K u x6 rs → SdA K s1 raws1 h1 u)) ∧
  SH FR Any w w' [.B p 71 [.int .i64 s1, .int .i64 s2, u], .O 125 u raws1 g1, .R (fun b => F2 b ∧ b < w.heap.size) x6 rs, .I FI (SdA FI s1 raws s3), .B b0_0 27 [.bool x1, .int .i64 x2, .int .i64 x3, .int .i64 x4, .int .i64 x5, x6]]) ?_ ?_
                · refine CW.seq (fun K16 h16 => ?_)
                  refine CW.region ?_
                  refine r_move rfl ?_
                  refine r_lss rfl rfl rfl ?_
                  refine LW.nil ?_
                  refine thenE_norm ?_
                  refine cut (K := K16) [0, 1, 2, 3, 9, 11, 72] (fun σ => ?_)
                  simp only [setL, keepE, upd_get, ev, Nat.reduceEqDiff, ↓reduceIte]
                  refine h16 _ _ ?_; clear h16; try clear K16
                  refine CW.condT rfl (by first | rfl | (simp only [decide_eq_true_eq, decide_eq_false_iff_not, Bool.and_eq_true, Bool.or_eq_true, Bool.and_eq_false_iff, Bool.or_eq_false_iff, Bool.not_eq_true', Bool.not_eq_false', beq_iff_eq, bne_iff_ne]; omega) | simp_all) ?_
                  refine CW.seq (fun K17 h17 => ?_)
                  refine CW.drawP [0, 4] [13] H (by dsimp only [pickC, nthC] <;> rfl) (by repeat first | exact List.Sublist.refl _ | exact List.nil_sublist _ | apply List.Sublist.cons_cons | apply List.Sublist.cons) (by kernel_rfl) rfl ?_
                  clear H
                  intro w9d H
                  refine DL.take (i := 0) [0, 11, 12, 13] rfl (by kernel_rfl) (by kernel_rfl) (by kernel_rfl) (by kernel_rfl) rfl rfl (fun u H => x_move ) (SH.sub H (by repeat first | exact List.Sublist.refl _ | exact List.nil_sublist _ | apply List.Sublist.cons_cons | apply List.Sublist.cons)) ?_
                  refine DL.take (i := 1) [1, 2, 3, 4, 10, 11, 12, 13] rfl (by kernel_rfl) (by kernel_rfl) (by kernel_rfl) (by kernel_rfl) rfl rfl (fun u H => x_move ) (SH.sub H (by repeat first | exact List.Sublist.refl _ | exact List.nil_sublist _ | apply List.Sublist.cons_cons | apply List.Sublist.cons)) ?_
                  refine DL.take (i := 2) [2, 3, 4, 10, 11, 12, 13] rfl (by kernel_rfl) (by kernel_rfl) (by kernel_rfl) (by kernel_rfl) rfl rfl (fun u H => x_nilCheck rfl) (SH.sub H (by repeat first | exact List.Sublist.refl _ | exact List.nil_sublist _ | apply List.Sublist.cons_cons | apply List.Sublist.cons)) ?_
                  refine DL.take (i := 3) [3, 4, 10, 11, 12, 13] rfl (by kernel_rfl) (by kernel_rfl) (by kernel_rfl) (by kernel_rfl) rfl rfl (fun u H => x_fieldAddrO Try.underlying71 rfl Try.sizeOf69 (by decide) (show _ = 2 from rfl) rfl) (SH.sub H (by repeat first | exact List.Sublist.refl _ | exact List.nil_sublist _ | apply List.Sublist.cons_cons | apply List.Sublist.cons)) ?_
                  refine DL.take (i := 4) [4, 10, 11, 12, 13] rfl (by kernel_rfl) (by kernel_rfl) (by kernel_rfl) (by kernel_rfl) rfl rfl (fun u H => x_load Try.isAgg69 rfl (by first | exact SH.cellB H (by (repeat first | exact At.here | apply At.there); done) (by rfl) | exact SH.cellI H (by (repeat first | exact At.here | apply At.there); done) (by rfl) | assumption)) (SH.sub H (by repeat first | exact List.Sublist.refl _ | exact List.nil_sublist _ | apply List.Sublist.cons_cons | apply List.Sublist.cons)) ?_
                  refine DL.take (i := 5) [5, 8, 9, 10, 11, 12, 13] rfl (by kernel_rfl) (by kernel_rfl) (by kernel_rfl) (by kernel_rfl) rfl rfl (fun u H => x_move ) (SH.sub H (by repeat first | exact List.Sublist.refl _ | exact List.nil_sublist _ | apply List.Sublist.cons_cons | apply List.Sublist.cons)) ?_
                  refine DL.take (i := 6) [6, 8, 9, 10, 11, 12, 13] rfl (by kernel_rfl) (by kernel_rfl) (by kernel_rfl) (by kernel_rfl) rfl rfl (fun u H => x_move ) (SH.sub H (by repeat first | exact List.Sublist.refl _ | exact List.nil_sublist _ | apply List.Sublist.cons_cons | apply List.Sublist.cons)) ?_
                  refine DL.take (i := 7) [7, 8, 9, 10, 11, 12, 13] rfl (by kernel_rfl) (by kernel_rfl) (by kernel_rfl) (by kernel_rfl) rfl rfl (fun u H => x_loadA Try.isAgg27 Try.sizeOf27 rfl (by first | exact SH.cells H (by (repeat first | exact At.here | apply At.there); done)) (by rfl)) (SH.sub H (by repeat first | exact List.Sublist.refl _ | exact List.nil_sublist _ | apply List.Sublist.cons_cons | apply List.Sublist.cons)) ?_
                  refine DL.take (i := 8) [8, 9, 10, 11, 12, 13] rfl (by kernel_rfl) (by kernel_rfl) (by kernel_rfl) (by kernel_rfl) rfl rfl (fun u H => x_buildQ Try.underlying125 Try.zeroValue125 rfl (pl := [(0, 1), (1, 1), (2, 1), (3, 6), (9, 1)]) (by intro w; simp [go_sem]) (qs := [(0, [_]), (1, [_]), (3, [_, _, _, _, _, _])]) (cs := [_, _, .slice none 0 0, _, _, _, _, _, _, .bool false]) ⟨rfl, cells_one (by simp only [upd_get, ev, Nat.reduceEqDiff, ↓reduceIte] <;> rfl) (by first | rfl | exact Rs.oneC (by first | assumption | exact SH.rsR H (by (repeat first | exact At.here | apply At.there); done) | exact SH.rsO H (by (repeat first | exact At.here | apply At.there); done) | exact (Rs.nil : Rs Non _ _ _))), rfl, cells_one (by simp only [upd_get, ev, Nat.reduceEqDiff, ↓reduceIte] <;> rfl) (by first | rfl | exact Rs.oneC (by first | assumption | exact SH.rsR H (by (repeat first | exact At.here | apply At.there); done) | exact SH.rsO H (by (repeat first | exact At.here | apply At.there); done) | exact (Rs.nil : Rs Non _ _ _))), rfl, (by simp only [upd_get, ev, Nat.reduceEqDiff, ↓reduceIte, cellsL, agg, List.toList_toArray, Row.cells, Cm.L, Rq.L, Tp.L, Bat.L, Ty.L, Sd.L] <;> rfl), trivial⟩ rfl) (SH.sub H (by repeat first | exact List.Sublist.refl _ | exact List.nil_sublist _ | apply List.Sublist.cons_cons | apply List.Sublist.cons)) ?_
                  refine DL.one (i := 9) (by kernel_rfl) rfl rfl ?_
                  refine r_buildSliceA (vs := [_]) rfl Try.underlying69 Try.sizeOf125 Try.zeroValue125 rfl rfl rfl rfl (by simp only [List.map_cons, List.map_nil, List.toList_toArray, numbered, Nat.reduceAdd, upd_get, ev, Nat.reduceEqDiff, ↓reduceIte] <;> rfl) rfl (by intro v hv; simp only [List.mem_cons, List.not_mem_nil, or_false] at hv; rcases hv with rfl <;> rfl) ?_
                  intro b9_9 w9_9 hb9_9 hs9_9 hE9_9 hB9_9
                  replace H := SH.call H (SH.fromB hE9_9 hb9_9 hs9_9 hB9_9)
                  clear hb9_9 hs9_9 hE9_9 hB9_9
                  try dsimp only [replC, List.cons_append, List.nil_append, List.append_nil, agg, cellsL, Value.cells, List.toList_toArray, List.set_cons_zero, List.set_cons_succ, spliceL, List.take_succ_cons, List.take_zero, List.drop_succ_cons, List.drop_zero, List.length_cons, List.length_nil, Nat.reduceAdd, Row.cells, Cm.L, Rq.L, Tp.L, Bat.L, Ty.L, Sd.L] at H
                  replace H := SH.row (b := b9_9) (xs := ([⟨sl, b, .slice none 0 0, ⟨x1, x2, ⟨x3, x4⟩, x5, x6⟩, false⟩] : List Sd)) (n := 1) (cap := 1) H (by (repeat first | exact At.here | apply At.there); done) (by simp only [flat, List.flatMap_cons, List.flatMap_nil, cellsL, agg, List.append_nil, List.cons_append, List.nil_append, List.toList_toArray, Row.cells, Cm.L, Rq.L, Tp.L, Bat.L, Ty.L, Sd.L] <;> rfl) (by intro x hx; first | rfl | (simp at hx; done) | (simp only [List.mem_cons, List.not_mem_nil, or_false] at hx; rcases hx with rfl <;> first | rfl | exact (by first | rfl | assumption | exact Rs.oneC (by first | assumption | exact SH.rsR H (by (repeat first | exact At.here | apply At.there); done) | exact SH.rsO H (by (repeat first | exact At.here | apply At.there); done) | exact (Rs.nil : Rs Non _ _ _)) | (simp only [List.all_cons, List.all_nil, Bool.and_true, Bool.and_eq_true, Row.cells, Cm.L, Rq.L, Tp.L, Bat.L, Ty.L, Sd.L]; (repeat' constructor) <;> first | rfl | assumption | exact Rs.oneC (by first | assumption | exact SH.rsR H (by (repeat first | exact At.here | apply At.there); done) | exact SH.rsO H (by (repeat first | exact At.here | apply At.there); done) | exact (Rs.nil : Rs Non _ _ _)))))) (by rfl) rfl (by decide)
                  try dsimp only [replC, List.cons_append, List.nil_append, List.append_nil, agg, cellsL, Value.cells, List.toList_toArray, List.set_cons_zero, List.set_cons_succ, spliceL, List.take_succ_cons, List.take_zero, List.drop_succ_cons, List.drop_zero, List.length_cons, List.length_nil, Nat.reduceAdd, Row.cells, Cm.L, Rq.L, Tp.L, Bat.L, Ty.L, Sd.L] at H
                  refine LW.nil (thenE_norm ⟨fun _ => (SH.sub H (by repeat first | exact List.Sublist.refl _ | exact List.nil_sublist _ | apply List.Sublist.cons_cons | apply List.Sublist.cons)), ?_⟩)
                  refine DL.one (i := 10) (by kernel_rfl) rfl rfl ?_
                  first
                    | refine s_append H rfl Try.underlying69 Try.underlying69 Try.type125 rfl (by simp only [upd_get, ev, Nat.reduceEqDiff, ↓reduceIte] <;> rfl) (by simp only [upd_get, ev, Nat.reduceEqDiff, ↓reduceIte] <;> rfl) (by (repeat first | exact At.here | apply At.there); done) (by first | assumption | exact SH.rsR H (by (repeat first | exact At.here | apply At.there); done) | exact SH.rsO H (by (repeat first | exact At.here | apply At.there); done) | exact (Rs.nil : Rs Non _ _ _)) (by rfl) (by rfl) (by first | omega | (simp only [Try.t125, List.length_append, List.length_cons, List.length_nil, List.length_map, maxLen]; omega) | (simp [Try.t125, maxLen]; omega)) (by first | omega | (simp only [Try.t125, List.length_append, List.length_cons, List.length_nil, List.length_map, maxLen]; omega) | (simp [Try.t125, maxLen]; omega)) ?_
                    | refine s_appendNil H rfl Try.underlying69 Try.underlying69 Try.type125 rfl rfl (by simp only [upd_get, ev, Nat.reduceEqDiff, ↓reduceIte] <;> rfl) (by first | assumption | exact SH.rsR H (by (repeat first | exact At.here | apply At.there); done) | exact SH.rsO H (by (repeat first | exact At.here | apply At.there); done) | exact (Rs.nil : Rs Non _ _ _)) (by rfl) (by rfl) (by first | omega | (simp only [Try.t125, List.length_append, List.length_cons, List.length_nil, List.length_map, maxLen]; omega) | (simp [Try.t125, maxLen]; omega)) ?_
                  clear H
                  intro v9_10 w9_10 g9_10 H hN9_10
                  try dsimp only [replC, List.cons_append, List.nil_append, List.append_nil] at H
                  refine LW.nil (thenE_norm ⟨fun _ => (SH.sub H (by repeat first | exact List.Sublist.refl _ | exact List.nil_sublist _ | apply List.Sublist.cons_cons | apply List.Sublist.cons)), ?_⟩)
                  refine DL.take (i := 11) [11, 12, 13] rfl (by kernel_rfl) (by kernel_rfl) (by kernel_rfl) (by kernel_rfl) rfl rfl (fun u H => x_nilCheck rfl) (SH.sub H (by repeat first | exact List.Sublist.refl _ | exact List.nil_sublist _ | apply List.Sublist.cons_cons | apply List.Sublist.cons)) ?_
                  refine DL.take (i := 12) [12, 13] rfl (by kernel_rfl) (by kernel_rfl) (by kernel_rfl) (by kernel_rfl) rfl rfl (fun u H => x_fieldAddrO Try.underlying71 rfl Try.sizeOf69 (by decide) (show _ = 2 from rfl) rfl) (SH.sub H (by repeat first | exact List.Sublist.refl _ | exact List.nil_sublist _ | apply List.Sublist.cons_cons | apply List.Sublist.cons)) ?_
                  refine DL.one (i := 13) (by kernel_rfl) rfl rfl ?_
                  refine s_store H Try.sizeOf69 rfl (by simp only [upd_get, ev, Nat.reduceEqDiff, ↓reduceIte] <;> rfl) (by first | rfl | assumption | exact Rs.oneC (by first | assumption | exact SH.rsR H (by (repeat first | exact At.here | apply At.there); done) | exact SH.rsO H (by (repeat first | exact At.here | apply At.there); done) | exact (Rs.nil : Rs Non _ _ _)) | (simp only [List.all_cons, List.all_nil, Bool.and_true, Bool.and_eq_true, Row.cells, Cm.L, Rq.L, Tp.L, Bat.L, Ty.L, Sd.L]; (repeat' constructor) <;> first | rfl | assumption | exact Rs.oneC (by first | assumption | exact SH.rsR H (by (repeat first | exact At.here | apply At.there); done) | exact SH.rsO H (by (repeat first | exact At.here | apply At.there); done) | exact (Rs.nil : Rs Non _ _ _)))) (by (repeat first | exact At.here | apply At.there); done) (by first | (simp; done) | decide | omega) ?_
                  clear H
                  intro w9_13 H
                  try dsimp only [replC, List.cons_append, List.nil_append, List.append_nil, agg, cellsL, Value.cells, List.toList_toArray, List.set_cons_zero, List.set_cons_succ, spliceL, List.take_succ_cons, List.take_zero, List.drop_succ_cons, List.drop_zero, List.length_cons, List.length_nil, Nat.reduceAdd, Row.cells, Cm.L, Rq.L, Tp.L, Bat.L, Ty.L, Sd.L] at H
                  refine LW.nil (thenE_norm ⟨fun h => Bool.noConfusion (show true = false from h), ?_⟩)
                  refine DL.done (by kernel_rfl) ?_
                  refine thenE_norm ?_
                  refine cut (K := K17) [0, 1, 2, 3, 9] (fun σ => ?_)
                  simp only [setL, keepE, upd_get, ev, Nat.reduceEqDiff, ↓reduceIte]
                  refine h17 _ _ ?_; clear h17; try clear K17
                  have hlx : (raws ++ [(⟨sl, b, .slice none 0 0, ⟨x1, x2, ⟨x3, x4⟩, x5, x6⟩, false⟩ : Sd)]).length = raws.length + 1 := by simp
                  refine CW.region ?_
                  refine r_move rfl ?_
                  refine r_nilCheck rfl rfl ?_
                  refine r_fieldAddrO rfl Try.underlying71 rfl Try.sizeOf69 (by decide) (show _ = 2 from rfl) rfl ?_
                  refine r_load rfl Try.isAgg69 rfl (by first | exact SH.cellB H (by (repeat first | exact At.here | apply At.there); done) (by rfl) | exact SH.cellI H (by (repeat first | exact At.here | apply At.there); done) (by rfl) | assumption) ?_
                  first
                    | refine r_lenV rfl Try.underlying69 (by simp only [upd_get, ev, Nat.reduceEqDiff, ↓reduceIte] <;> rfl) (by first | assumption | exact SH.rsR H (by (repeat first | exact At.here | apply At.there); done) | exact SH.rsO H (by (repeat first | exact At.here | apply At.there); done) | exact (Rs.nil : Rs Non _ _ _)) ?_
                    | refine r_len rfl Try.underlying69 rfl ?_
                  refine r_sub rfl rfl rfl (wr_i64 (by omega) (by omega)) ?_
                  refine r_assign rfl ?_
                  refine LW.nil ?_
                  refine thenE_norm ?_
                  exact ⟨rfl, raws.length, v9_10, raws ++ [⟨sl, b, .slice none 0 0, ⟨x1, x2, ⟨x3, x4⟩, x5, x6⟩, false⟩], g9_10, ⟨sl, b, .slice none 0 0, ⟨x1, x2, ⟨x3, x4⟩, x5, x6⟩, false⟩, tyNew b ⟨x1, x2, ⟨x3, x4⟩, x5, x6⟩ rs, s3 ++ [(sl, tyNew b ⟨x1, x2, ⟨x3, x4⟩, x5, x6⟩ rs)], by
                      simp only [List.length_append, List.length_singleton]
                      rw [show (((raws.length + 1 : Nat) : Int) - 1) = (raws.length : Int) by omega]; rfl, ⟨by simp; omega, by simp, by rw [l1]; simp, fun y => by rw [l1]; exact set_last hlm, rfl, .inl ⟨hlm, rfl⟩, ⟨hk, by omega⟩, fun u _ => Rs.nil, fun K u h h6 => All2.snoc h ⟨rfl, rfl, by
                        show false = decide (s1 / 2 + 1 ≤ (([] : List Int).length : Int))
                        rw [decide_eq_false (by simp; omega)], rfl, rfl, rfl, rfl, h6, Rs.nil⟩⟩, SH.sel H [0, 1, 2, 3, 4] (by decide) rfl⟩
                try clear H
                rintro vs wJ σ ⟨qq, u, raws1, g1, r1, t1, h1, rfl, ⟨hl1, hr1, hh1, hset, hba, hlk, ⟨hk, hnf⟩, hwho, hall⟩, H⟩
                simp only [setL, keepE, upd_get, ev, Nat.reduceEqDiff, ↓reduceIte]
                obtain ⟨a1, a2, a3, ⟨a4, a5, ⟨a6, a7⟩, a8, a9⟩, a10⟩ := r1
                dsimp only at hba
                have hql := lt_of_get hr1
                have hro := (SH.rsO H (i := 1) rfl).2 _ (List.mem_of_getElem? hr1)
                have hoa3 : oneC a3 = true := List.all_eq_true.1 hro a3 (by simp [Row.cells, Sd.L])
                have hoa9 : oneC a9 = true := List.all_eq_true.1 hro a9 (by simp [Row.cells, Sd.L])
                have hrel1 : ∀ (K : Nat → Prop) (u : World), SdA K s1 raws s3 u → Rs K u x6 rs → SdR K s1 u ⟨a1, a2, a3, ⟨a4, a5, ⟨a6, a7⟩, a8, a9⟩, a10⟩ (sl, t1) := fun K u h h6 => by
                  obtain ⟨y, hy, hyr⟩ := All2.get (hall K u h h6) hr1
                  rw [hh1] at hy; cases hy
                  exact hyr
                refine CW.seq (fun K18 h18 => ?_)
                refine CW.region ?_
                refine r_move rfl ?_
                refine r_nilCheck rfl rfl ?_
                refine r_fieldAddrO rfl Try.underlying71 rfl Try.sizeOf69 (by decide) (show _ = 2 from rfl) rfl ?_
                refine r_load rfl Try.isAgg69 rfl (by first | exact SH.cellB H (by (repeat first | exact At.here | apply At.there); done) (by rfl) | exact SH.cellI H (by (repeat first | exact At.here | apply At.there); done) (by rfl) | assumption) ?_
                refine r_move rfl ?_
                refine r_indexAddrV rfl Try.underlying69 (by simp only [upd_get, ev, Nat.reduceEqDiff, ↓reduceIte] <;> rfl) rfl (by first | assumption | exact SH.rsR H (by (repeat first | exact At.here | apply At.there); done) | exact SH.rsO H (by (repeat first | exact At.here | apply At.there); done) | exact (Rs.nil : Rs Non _ _ _)) (by exact Try.sizeOf125) (by omega) (by omega) ?_
                refine r_loadA rfl Try.isAgg125 Try.sizeOf125 rfl (by first | exact Rs.cells0 (by first | assumption | exact SH.rsR H (by (repeat first | exact At.here | apply At.there); done) | exact SH.rsO H (by (repeat first | exact At.here | apply At.there); done) | exact (Rs.nil : Rs Non _ _ _)) (by assumption)) (by rfl) ?_
                refine s_alloc (cs := [.int .i64 0, .int .i64 0, .slice none 0 0, .bool false, .int .i64 0, .int .i64 0, .int .i64 0, .int .i64 0, .slice none 0 0, .bool false]) H rfl Try.zeroValue125 rfl ?_
                clear H
                intro b11_7 w11_7 H
                try dsimp only [replC, List.cons_append, List.nil_append, List.append_nil, agg, cellsL, Value.cells, List.toList_toArray, List.set_cons_zero, List.set_cons_succ, spliceL, List.take_succ_cons, List.take_zero, List.drop_succ_cons, List.drop_zero, List.length_cons, List.length_nil, Nat.reduceAdd, Row.cells, Cm.L, Rq.L, Tp.L, Bat.L, Ty.L, Sd.L] at H
                refine s_storeA H Try.sizeOf125 rfl (by simp only [upd_get, ev, Nat.reduceEqDiff, ↓reduceIte] <;> rfl) (by simp only [cellsL, agg, List.toList_toArray, Row.cells, Cm.L, Rq.L, Tp.L, Bat.L, Ty.L, Sd.L] <;> rfl) (by rfl) (by first | rfl | assumption | exact Rs.oneC (by first | assumption | exact SH.rsR H (by (repeat first | exact At.here | apply At.there); done) | exact SH.rsO H (by (repeat first | exact At.here | apply At.there); done) | exact (Rs.nil : Rs Non _ _ _)) | (simp only [List.all_cons, List.all_nil, Bool.and_true, Bool.and_eq_true, Row.cells, Cm.L, Rq.L, Tp.L, Bat.L, Ty.L, Sd.L]; (repeat' constructor) <;> first | rfl | assumption | exact Rs.oneC (by first | assumption | exact SH.rsR H (by (repeat first | exact At.here | apply At.there); done) | exact SH.rsO H (by (repeat first | exact At.here | apply At.there); done) | exact (Rs.nil : Rs Non _ _ _)))) (by (repeat first | exact At.here | apply At.there); done) (by first | (simp; done) | decide | (show _ ≤ _; decide)) ?_
                clear H
                intro w11_8 H
                try dsimp only [replC, List.cons_append, List.nil_append, List.append_nil, agg, cellsL, Value.cells, List.toList_toArray, List.set_cons_zero, List.set_cons_succ, spliceL, List.take_succ_cons, List.take_zero, List.drop_succ_cons, List.drop_zero, List.length_cons, List.length_nil, Nat.reduceAdd, Row.cells, Cm.L, Rq.L, Tp.L, Bat.L, Ty.L, Sd.L] at H
                refine LW.nil ?_
                refine thenE_norm ?_
                refine cut (K := K18) [0, 1, 2, 3, 9, 11, 12] (fun σ => ?_)
                simp only [setL, keepE, upd_get, ev, Nat.reduceEqDiff, ↓reduceIte]
                refine h18 _ _ ?_; clear h18; try clear K18
                refine CW.seq (fun K19 h19 => ?_)
                refine CW.seq (fun K20 h20 => ?_)
                refine CW.region ?_
                refine r_move rfl ?_
                refine r_fieldAddrO rfl Try.underlying125 rfl Try.sizeOf3 (by decide) (show _ = 1 from rfl) rfl ?_
                refine r_load rfl Try.isAgg3 rfl (by first | exact SH.cellB H (by (repeat first | exact At.here | apply At.there); done) (by rfl) | assumption) ?_
                refine r_lss rfl rfl rfl ?_
                refine LW.nil ?_
                refine thenE_norm (h20 _ _ ?_); clear h20; try clear K20
                refine CW.cond rfl (fun hc5 => ?_) (fun hc5 => ?_)
                · try simp only [decide_eq_true_eq, decide_eq_false_iff_not, Bool.and_eq_true, Bool.or_eq_true, Bool.and_eq_false_iff, Bool.or_eq_false_iff, Bool.not_eq_true', Bool.not_eq_false', beq_iff_eq, bne_iff_ne, ne_eq, Decidable.not_not] at hc5
                  refine CW.seq (fun K21 h21 => ?_)
                  refine CW.region ?_
                  refine r_assign rfl ?_
                  refine LW.nil ?_
                  refine thenE_norm (h21 _ _ ?_); clear h21; try clear K21
                  refine CW.ret (thenE_ret (ret1 Try.results36 (by simp only [upd_get, ev, Nat.reduceEqDiff, ↓reduceIte]; rfl) ?_))
                  have hold : oldT (lookM s3 sl) b = true := by
                    rcases hlk with ⟨q1, q2⟩ | q
                    · rw [q2] at hba
                      have hba2 : a2 = b := hba
                      omega
                    · rw [q]; exact decide_eq_true (by omega)
                  rw [hear_old hgo hk hnf hold]
                  rcases hlk with ⟨q1, q2⟩ | q
                  · rw [q1] at hold; cases hold
                  · obtain ⟨FN', K⟩ := RLnA.mk2 (SH.sel (H.addO (α := Int) 3) [0, 1, 6] (by decide) rfl)
                    refine ⟨_, _, _, _, _, rfl, K, fun K u h _ h6 => ?_⟩
                    have h7 := hall K u h h6
                    have e9 : h1 = s3 := by
                      have h8 := hset t1
                      have h9 : ∀ {l : List (Int × Tm)}, lookM l sl = some t1 → setM l sl t1 = l := by
                        intro l
                        induction l with
                        | nil => intro q; cases q
                        | cons y l ih =>
                          intro q
                          rw [lookM] at q
                          rw [setM]
                          by_cases hy : y.1 = sl
                          · rw [if_pos hy] at q ⊢
                            cases q
                            rw [← hy]
                          · rw [if_neg hy] at q ⊢
                            rw [ih q]
                      rw [h9 q] at h8
                      rw [h8]
                      apply List.ext_getElem?
                      intro j
                      rw [List.getElem?_set]
                      by_cases hj : qq = j
                      · subst hj
                        rw [if_pos rfl, if_pos (lt_of_get hh1)]; exact hh1
                      · rw [if_neg hj]
                    rw [e9] at h7
                    exact h7
                · try simp only [decide_eq_true_eq, decide_eq_false_iff_not, Bool.and_eq_true, Bool.or_eq_true, Bool.and_eq_false_iff, Bool.or_eq_false_iff, Bool.not_eq_true', Bool.not_eq_false', beq_iff_eq, bne_iff_ne, ne_eq, Decidable.not_not] at hc5
                  refine CW.skip ?_
                  refine thenE_norm (h19 _ _ ?_); clear h19; try clear K19
                  refine CW.seqJ [0, 1, 11, 12] [] (fun vs w' => ∃ (r2 : Sd), vs = [] ∧ ¬ oldT (lookM s3 sl) b = true ∧ (r2.slot = sl ∧ r2.ballot = (baseT (lookM s3 sl) b ⟨x1, x2, ⟨x3, x4⟩, x5, x6⟩ rs).ballot ∧ (∀ u, SdA FI s1 raws s3 u → Rs FI u r2.who (baseT (lookM s3 sl) b ⟨x1, x2, ⟨x3, x4⟩, x5, x6⟩ rs).frm) ∧
  (∀ (K : Nat → Prop) (u : World) (vw : Value) (ws : List Int), SdA K s1 raws s3 u → Rs K u vw ws → Rs K u x6 rs → SdR K s1 u ⟨r2.slot, r2.ballot, vw, r2.batch, decide (s1 / 2 + 1 ≤ (ws.length : Int))⟩ (sl, ⟨(baseT (lookM s3 sl) b ⟨x1, x2, ⟨x3, x4⟩, x5, x6⟩ rs).ballot, (baseT (lookM s3 sl) b ⟨x1, x2, ⟨x3, x4⟩, x5, x6⟩ rs).fill, (baseT (lookM s3 sl) b ⟨x1, x2, ⟨x3, x4⟩, x5, x6⟩ rs).view, (baseT (lookM s3 sl) b ⟨x1, x2, ⟨x3, x4⟩, x5, x6⟩ rs).tip, (baseT (lookM s3 sl) b ⟨x1, x2, ⟨x3, x4⟩, x5, x6⟩ rs).time, (baseT (lookM s3 sl) b ⟨x1, x2, ⟨x3, x4⟩, x5, x6⟩ rs).rs, ws⟩)) ∧ oneC r2.who = true ∧ oneC r2.batch.reqs = true) ∧
  SH FR Any w w' [.B p 71 [.int .i64 s1, .int .i64 s2, u], .O 125 u raws1 g1, .R (fun b => F2 b ∧ b < w.heap.size) x6 rs, .I FI (SdA FI s1 raws s3), .B b0_0 27 [.bool x1, .int .i64 x2, .int .i64 x3, .int .i64 x4, .int .i64 x5, x6],
    .B b11_7 125 [.int .i64 r2.slot, .int .i64 r2.ballot, r2.who, .bool r2.batch.fill, .int .i64 r2.batch.view, .int .i64 r2.batch.tip.view, .int .i64 r2.batch.tip.slot, .int .i64 r2.batch.time, r2.batch.reqs, .bool r2.chosen]]) ?_ ?_
                  · refine CW.seq (fun K23 h23 => ?_)
                    have hnold : ¬ oldT (lookM s3 sl) b = true := by
                      rcases hlk with ⟨q1, q2⟩ | q
                      · rw [q1]; exact Bool.false_ne_true
                      · rw [q]
                        intro h
                        have := of_decide_eq_true h
                        omega
                    refine CW.region ?_
                    refine r_move rfl ?_
                    refine r_fieldAddrO rfl Try.underlying125 rfl Try.sizeOf3 (by decide) (show _ = 1 from rfl) rfl ?_
                    refine r_load rfl Try.isAgg3 rfl (by first | exact SH.cellB H (by (repeat first | exact At.here | apply At.there); done) (by rfl) | assumption) ?_
                    refine r_gtr rfl rfl rfl ?_
                    refine LW.nil ?_
                    refine thenE_norm ?_
                    refine cut (K := K23) [0, 1, 2, 3, 9, 11, 12, 106] (fun σ => ?_)
                    simp only [setL, keepE, upd_get, ev, Nat.reduceEqDiff, ↓reduceIte]
                    refine h23 _ _ ?_; clear h23; try clear K23
                    refine CW.cond rfl (fun hc6 => ?_) (fun hc6 => ?_)
                    · try simp only [decide_eq_true_eq, decide_eq_false_iff_not, Bool.and_eq_true, Bool.or_eq_true, Bool.and_eq_false_iff, Bool.or_eq_false_iff, Bool.not_eq_true', Bool.not_eq_false', beq_iff_eq, bne_iff_ne, ne_eq, Decidable.not_not] at hc6
                      refine CW.region ?_
                      refine r_move rfl ?_
                      refine r_move rfl ?_
                      refine r_loadA rfl Try.isAgg27 Try.sizeOf27 rfl (by first | exact SH.cells H (by (repeat first | exact At.here | apply At.there); done)) (by rfl) ?_
                      refine r_buildQ rfl Try.underlying125 Try.zeroValue125 rfl (pl := [(0, 1), (1, 1), (2, 1), (3, 6), (9, 1)]) (by intro w; simp [go_sem]) (qs := [(0, [_]), (1, [_]), (3, [_, _, _, _, _, _])]) (cs := [_, _, .slice none 0 0, _, _, _, _, _, _, .bool false]) ⟨rfl, cells_one (by simp only [upd_get, ev, Nat.reduceEqDiff, ↓reduceIte] <;> rfl) (by first | rfl | exact Rs.oneC (by first | assumption | exact SH.rsR H (by (repeat first | exact At.here | apply At.there); done) | exact SH.rsO H (by (repeat first | exact At.here | apply At.there); done) | exact (Rs.nil : Rs Non _ _ _))), rfl, cells_one (by simp only [upd_get, ev, Nat.reduceEqDiff, ↓reduceIte] <;> rfl) (by first | rfl | exact Rs.oneC (by first | assumption | exact SH.rsR H (by (repeat first | exact At.here | apply At.there); done) | exact SH.rsO H (by (repeat first | exact At.here | apply At.there); done) | exact (Rs.nil : Rs Non _ _ _))), rfl, (by simp only [upd_get, ev, Nat.reduceEqDiff, ↓reduceIte, cellsL, agg, List.toList_toArray, Row.cells, Cm.L, Rq.L, Tp.L, Bat.L, Ty.L, Sd.L] <;> rfl), trivial⟩ rfl ?_
                      refine s_storeA H Try.sizeOf125 rfl (by simp only [upd_get, ev, Nat.reduceEqDiff, ↓reduceIte] <;> rfl) (by simp only [cellsL, agg, List.toList_toArray, Row.cells, Cm.L, Rq.L, Tp.L, Bat.L, Ty.L, Sd.L] <;> rfl) (by rfl) (by first | rfl | assumption | exact Rs.oneC (by first | assumption | exact SH.rsR H (by (repeat first | exact At.here | apply At.there); done) | exact SH.rsO H (by (repeat first | exact At.here | apply At.there); done) | exact (Rs.nil : Rs Non _ _ _)) | (simp only [List.all_cons, List.all_nil, Bool.and_true, Bool.and_eq_true, Row.cells, Cm.L, Rq.L, Tp.L, Bat.L, Ty.L, Sd.L]; (repeat' constructor) <;> first | rfl | assumption | exact Rs.oneC (by first | assumption | exact SH.rsR H (by (repeat first | exact At.here | apply At.there); done) | exact SH.rsO H (by (repeat first | exact At.here | apply At.there); done) | exact (Rs.nil : Rs Non _ _ _)))) (by (repeat first | exact At.here | apply At.there); done) (by first | (simp; done) | decide | (show _ ≤ _; decide)) ?_
                      clear H
                      intro w15_4 H
                      try dsimp only [replC, List.cons_append, List.nil_append, List.append_nil, agg, cellsL, Value.cells, List.toList_toArray, List.set_cons_zero, List.set_cons_succ, spliceL, List.take_succ_cons, List.take_zero, List.drop_succ_cons, List.drop_zero, List.length_cons, List.length_nil, Nat.reduceAdd, Row.cells, Cm.L, Rq.L, Tp.L, Bat.L, Ty.L, Sd.L] at H
                      refine LW.nil ?_
                      refine thenE_norm ?_
                      have hbase : baseT (lookM s3 sl) b ⟨x1, x2, ⟨x3, x4⟩, x5, x6⟩ rs = tyNew b ⟨x1, x2, ⟨x3, x4⟩, x5, x6⟩ rs := by
                        rcases hlk with ⟨q1, q2⟩ | q
                        · rw [q1]; rfl
                        · rw [q, baseT, if_pos (by omega)]
                      exact ⟨rfl, ⟨sl, b, .slice none 0 0, ⟨x1, x2, ⟨x3, x4⟩, x5, x6⟩, false⟩, rfl, hnold, ⟨rfl, by rw [hbase]; rfl, fun u _ => by rw [hbase]; exact Rs.nil, fun K u vw ws _ hw h6 => by rw [hbase]; exact ⟨rfl, rfl, rfl, rfl, rfl, rfl, rfl, h6, hw⟩, rfl, ho6⟩, SH.sel H [0, 1, 2, 3, 4, 5] (by decide) rfl⟩
                    · try simp only [decide_eq_true_eq, decide_eq_false_iff_not, Bool.and_eq_true, Bool.or_eq_true, Bool.and_eq_false_iff, Bool.or_eq_false_iff, Bool.not_eq_true', Bool.not_eq_false', beq_iff_eq, bne_iff_ne, ne_eq, Decidable.not_not] at hc6
                      refine CW.skip ?_
                      refine thenE_norm ?_
                      have hbase : baseT (lookM s3 sl) b ⟨x1, x2, ⟨x3, x4⟩, x5, x6⟩ rs = t1 := by
                        rcases hlk with ⟨q1, q2⟩ | q
                        · rw [q1]; exact q2.symm
                        · rw [q, baseT, if_neg (by omega)]
                      have hsl1 : a1 = sl := by
                        have h6 : Rs (fun b => FI b ∨ F2 b) w x6 rs := hb.mono fun _ _ q => .inr q
                        exact (hrel1 _ w (SdA.mono hm fun _ q => .inl q) h6).sl
                      exact ⟨rfl, ⟨a1, a2, a3, ⟨a4, a5, ⟨a6, a7⟩, a8, a9⟩, a10⟩, rfl, hnold, ⟨hsl1, by rw [hbase]; exact hba, fun u h => by rw [hbase]; exact hwho u h, fun K u vw ws h hw h6 => by
                        rw [hbase]
                        have h9 := hrel1 K u h h6
                        exact ⟨h9.sl, h9.ba, rfl, h9.fi, h9.vi, h9.ti, h9.tm, h9.rq, hw⟩, hoa3, hoa9⟩, SH.sel H [0, 1, 2, 3, 4, 5] (by decide) rfl⟩
                  try clear H
                  rintro vs wJ σ ⟨⟨d1, d2, d3, ⟨d4, d5, ⟨d6, d7⟩, d8, d9⟩, d10⟩, rfl, hnold, ⟨hs2, hb2, hwho2, hrel2, hod3, hod9⟩, H⟩
                  simp only [setL, keepE, upd_get, ev, Nat.reduceEqDiff, ↓reduceIte]
                  dsimp only at hs2 hb2 hwho2 hod3 hod9 H
                  generalize hT2 : baseT (lookM s3 sl) b ⟨x1, x2, ⟨x3, x4⟩, x5, x6⟩ rs = T2 at *
                  have hip := fun j => ins2P_len (k := idK) (m := i) (l := T2.frm) j
                  clear hrel1 hwho
                  refine CW.seq (fun K24 h24 => ?_)
                  refine CW.region ?_
                  refine r_assign rfl ?_
                  refine LW.nil ?_
                  refine thenE_norm (h24 _ _ ?_); clear h24; try clear K24
                  refine CW.seq (fun K25 h25 => ?_)
                  refine CW.region ?_
                  refine r_assign rfl ?_
                  refine LW.nil ?_
                  refine thenE_norm (h25 _ _ ?_); clear h25; try clear K25
                  refine CW.seq (fun K26 h26 => ?_)
                  refine CW.seq (fun K27 h27 => ?_)
                  refine CW.region ?_
                  refine r_assign rfl ?_
                  refine LW.nil ?_
                  refine thenE_norm (h27 _ _ ?_); clear h27; try clear K27
                  refine CW.block ?_
                  refine CW.loopR [0, 1, 11, 12] [13, 14, 15] (fun m vs w' => ∃ (k : Nat) (e : Value) (ge : Option Nat), vs = [e, .bool (ins2P idK i T2.frm k).1, .int .i64 k] ∧ k ≤ T2.frm.length ∧ m = T2.frm.length - k ∧
  SH FR Any w w' [.B p 71 [.int .i64 s1, .int .i64 s2, u], .O 125 u raws1 g1, .I FI (SdA FI s1 raws s3), .B b11_7 125 [.int .i64 d1, .int .i64 d2, d3, .bool d4, .int .i64 d5, .int .i64 d6, .int .i64 d7, .int .i64 d8, d9, .bool d10], .O 3 e (ins2P idK i T2.frm k).2 ge]) (T2.frm.length) ?_ ?_
                  · exact ⟨0, .slice none 0 0, none, rfl, by omega, by omega, SH.sel (H.addO (α := Int) 3) [0, 1, 3, 5, 6] (by decide) rfl⟩
                  try clear H
                  rintro n1 vs1 wL1 σ ⟨k, e, ge, rfl, hk1, rfl, H⟩
                  simp only [setL, keepE, upd_get, ev, Nat.reduceEqDiff, ↓reduceIte]
                  refine CW.seq (fun K28 h28 => ?_)
                  refine CW.seq (fun K29 h29 => ?_)
                  refine CW.region ?_
                  refine r_move rfl ?_
                  refine r_fieldAddrO rfl Try.underlying125 rfl Try.sizeOf41 (by decide) (show _ = 2 from rfl) rfl ?_
                  refine r_load rfl Try.isAgg41 rfl (by first | exact SH.cellB H (by (repeat first | exact At.here | apply At.there); done) (by rfl) | assumption) ?_
                  first
                    | refine r_lenV rfl Try.underlying41 (by simp only [upd_get, ev, Nat.reduceEqDiff, ↓reduceIte] <;> rfl) (hwho2 _ (SH.propI H (i := 2) rfl)) ?_
                    | refine r_len rfl Try.underlying41 rfl ?_
                  refine r_lss rfl rfl rfl ?_
                  refine LW.nil ?_
                  refine thenE_norm (h29 _ _ ?_); clear h29; try clear K29
                  refine CW.cond rfl (fun hc7 => ?_) (fun hc7 => ?_)
                  · try simp only [decide_eq_true_eq, decide_eq_false_iff_not, Bool.and_eq_true, Bool.or_eq_true, Bool.and_eq_false_iff, Bool.or_eq_false_iff, Bool.not_eq_true', Bool.not_eq_false', beq_iff_eq, bne_iff_ne, ne_eq, Decidable.not_not] at hc7
                    refine CW.skip ?_
                    refine thenE_norm (h28 _ _ ?_); clear h28; try clear K28
                    refine CW.seq (fun K30 h30 => ?_)
                    refine CW.block ?_
                    refine CW.seq (fun K31 h31 => ?_)
                    refine CW.seq (fun K32 h32 => ?_)
                    obtain ⟨y, hy⟩ := get_of_lt (show k < T2.frm.length by omega)
                    have hs := ins2P_succ (k := idK) (m := i) hy
                    have hl := hip k
                    generalize ins2P idK i T2.frm k = S at *
                    obtain ⟨sb, su⟩ := S
                    dsimp only at hs hl H ⊢
                    refine CW.region ?_
                    refine r_move rfl ?_
                    refine r_not rfl rfl ?_
                    refine r_move rfl ?_
                    refine LW.splitB (t := 120) rfl (fun hg21_3 => ?_) (fun hg21_3 => ?_)
                    · have hg21_3P := hg21_3
                      try simp only [decide_eq_true_eq, decide_eq_false_iff_not, Bool.and_eq_true, Bool.or_eq_true, Bool.and_eq_false_iff, Bool.or_eq_false_iff, Bool.not_eq_true', Bool.not_eq_false', beq_iff_eq, bne_iff_ne] at hg21_3P
                      refine LW.want rfl rfl hg21_3 ?_
                      refine r_fieldAddrO rfl Try.underlying125 rfl Try.sizeOf41 (by decide) (show _ = 2 from rfl) rfl ?_
                      refine LW.want rfl rfl hg21_3 ?_
                      refine r_load rfl Try.isAgg41 rfl (by first | exact SH.cellB H (by (repeat first | exact At.here | apply At.there); done) (by rfl) | assumption) ?_
                      refine LW.want rfl rfl hg21_3 ?_
                      refine r_move rfl ?_
                      refine LW.want rfl rfl hg21_3 ?_
                      refine r_indexAddrV rfl Try.underlying41 (by simp only [upd_get, ev, Nat.reduceEqDiff, ↓reduceIte] <;> rfl) rfl (hwho2 _ (SH.propI H (i := 2) rfl)) (by exact Try.sizeOf3) (by omega) (by omega) ?_
                      refine LW.want rfl rfl hg21_3 ?_
                      refine r_load rfl Try.isAgg3 rfl (Rs.cell0 (hwho2 _ (SH.propI H (i := 2) rfl)) hy rfl) ?_
                      refine LW.want rfl rfl hg21_3 ?_
                      refine r_move rfl ?_
                      refine LW.want rfl rfl hg21_3 ?_
                      refine r_geq rfl rfl rfl ?_
                      refine r_pickT rfl rfl hg21_3 ?_
                      refine LW.nil ?_
                      refine thenE_norm ?_
                      refine cut (K := K32) [0, 1, 11, 12, 13, 14, 15, 128] (fun σ => ?_)
                      simp only [setL, keepE, upd_get, ev, Nat.reduceEqDiff, ↓reduceIte]
                      refine h32 _ _ ?_; clear h32; try clear K32
                      refine CW.cond rfl (fun hc8 => ?_) (fun hc8 => ?_)
                      · try simp only [decide_eq_true_eq, decide_eq_false_iff_not, Bool.and_eq_true, Bool.or_eq_true, Bool.and_eq_false_iff, Bool.or_eq_false_iff, Bool.not_eq_true', Bool.not_eq_false', beq_iff_eq, bne_iff_ne, ne_eq, Decidable.not_not] at hc8
                        refine CW.seq (fun K33 h33 => ?_)
                        refine CW.region ?_
                        refine r_move rfl ?_
                        refine r_move rfl ?_
                        refine r_buildSlice rfl Try.underlying41 Try.sizeOf3 Try.zeroValue3 rfl rfl rfl (by simp only [List.map_cons, List.map_nil, List.toList_toArray, List.foldl_cons, List.foldl_nil, List.replicate_succ, List.replicate_zero, List.set_cons_zero, List.set_cons_succ, upd_get, ev, Nat.reduceEqDiff, ↓reduceIte] <;> rfl) ?_
                        intro b22_2 w22_2 hb22_2 hs22_2 hE22_2 hB22_2
                        replace H := SH.call H (SH.fromB hE22_2 hb22_2 hs22_2 hB22_2)
                        clear hb22_2 hs22_2 hE22_2 hB22_2
                        try dsimp only [replC, List.cons_append, List.nil_append, List.append_nil, agg, cellsL, Value.cells, List.toList_toArray, List.set_cons_zero, List.set_cons_succ, spliceL, List.take_succ_cons, List.take_zero, List.drop_succ_cons, List.drop_zero, List.length_cons, List.length_nil, Nat.reduceAdd, Row.cells, Cm.L, Rq.L, Tp.L, Bat.L, Ty.L, Sd.L] at H
                        replace H := SH.row (b := b22_2) (xs := ([i] : List Int)) (n := 1) (cap := 1) H (by (repeat first | exact At.here | apply At.there); done) (by rfl) (by intro x hx; first | rfl | (simp at hx; done) | (simp only [List.mem_cons, List.not_mem_nil, or_false] at hx; rcases hx with rfl <;> first | rfl | exact (by first | rfl | assumption | exact Rs.oneC (by first | assumption | exact SH.rsR H (by (repeat first | exact At.here | apply At.there); done) | exact SH.rsO H (by (repeat first | exact At.here | apply At.there); done) | exact (Rs.nil : Rs Non _ _ _)) | (simp only [List.all_cons, List.all_nil, Bool.and_true, Bool.and_eq_true, Row.cells, Cm.L, Rq.L, Tp.L, Bat.L, Ty.L, Sd.L]; (repeat' constructor) <;> first | rfl | assumption | exact Rs.oneC (by first | assumption | exact SH.rsR H (by (repeat first | exact At.here | apply At.there); done) | exact SH.rsO H (by (repeat first | exact At.here | apply At.there); done) | exact (Rs.nil : Rs Non _ _ _)))))) (by rfl) rfl (by decide)
                        try dsimp only [replC, List.cons_append, List.nil_append, List.append_nil, agg, cellsL, Value.cells, List.toList_toArray, List.set_cons_zero, List.set_cons_succ, spliceL, List.take_succ_cons, List.take_zero, List.drop_succ_cons, List.drop_zero, List.length_cons, List.length_nil, Nat.reduceAdd, Row.cells, Cm.L, Rq.L, Tp.L, Bat.L, Ty.L, Sd.L] at H
                        refine s_append H rfl Try.underlying41 Try.underlying41 Try.type3 rfl (by simp only [upd_get, ev, Nat.reduceEqDiff, ↓reduceIte] <;> rfl) (by simp only [upd_get, ev, Nat.reduceEqDiff, ↓reduceIte] <;> rfl) (by (repeat first | exact At.here | apply At.there); done) (by first | assumption | exact SH.rsR H (by (repeat first | exact At.here | apply At.there); done) | exact SH.rsO H (by (repeat first | exact At.here | apply At.there); done) | exact (Rs.nil : Rs Non _ _ _)) (by rfl) (by rfl) (by first | omega | (simp only [Try.t3, List.length_append, List.length_cons, List.length_nil, List.length_map, maxLen]; omega) | (simp [Try.t3, maxLen]; omega)) (by first | omega | (simp only [Try.t3, List.length_append, List.length_cons, List.length_nil, List.length_map, maxLen]; omega) | (simp [Try.t3, maxLen]; omega)) ?_
                        clear H
                        intro v22_3 w22_3 g22_3 H hN22_3
                        try dsimp only [replC, List.cons_append, List.nil_append, List.append_nil] at H
                        refine r_assign rfl ?_
                        refine LW.nil ?_
                        refine thenE_norm (h33 _ _ ?_); clear h33; try clear K33
                        refine CW.region ?_
                        refine r_assign rfl ?_
                        refine LW.nil ?_
                        refine thenE_norm (h31 _ _ ?_); clear h31; try clear K31
                        refine CW.seq (fun K34 h34 => ?_)
                        refine CW.region ?_
                        refine r_fieldAddrO rfl Try.underlying125 rfl Try.sizeOf41 (by decide) (show _ = 2 from rfl) rfl ?_
                        refine r_load rfl Try.isAgg41 rfl (by first | exact SH.cellB H (by (repeat first | exact At.here | apply At.there); done) (by rfl) | assumption) ?_
                        refine r_move rfl ?_
                        refine r_indexAddrV rfl Try.underlying41 (by simp only [upd_get, ev, Nat.reduceEqDiff, ↓reduceIte] <;> rfl) rfl (hwho2 _ (SH.propI H (i := 2) rfl)) (by exact Try.sizeOf3) (by omega) (by omega) ?_
                        refine r_load rfl Try.isAgg3 rfl (Rs.cell0 (hwho2 _ (SH.propI H (i := 2) rfl)) hy rfl) ?_
                        refine r_move rfl ?_
                        refine r_neq rfl rfl rfl ?_
                        refine LW.nil ?_
                        refine thenE_norm ?_
                        refine cut (K := K34) [0, 1, 11, 12, 13, 14, 15, 139] (fun σ => ?_)
                        simp only [setL, keepE, upd_get, ev, Nat.reduceEqDiff, ↓reduceIte]
                        refine h34 _ _ ?_; clear h34; try clear K34
                        refine CW.cond rfl (fun hc9 => ?_) (fun hc9 => ?_)
                        · try simp only [decide_eq_true_eq, decide_eq_false_iff_not, Bool.and_eq_true, Bool.or_eq_true, Bool.and_eq_false_iff, Bool.or_eq_false_iff, Bool.not_eq_true', Bool.not_eq_false', beq_iff_eq, bne_iff_ne, ne_eq, Decidable.not_not] at hc9
                          refine CW.region ?_
                          refine r_move rfl ?_
                          refine r_fieldAddrO rfl Try.underlying125 rfl Try.sizeOf41 (by decide) (show _ = 2 from rfl) rfl ?_
                          refine r_load rfl Try.isAgg41 rfl (by first | exact SH.cellB H (by (repeat first | exact At.here | apply At.there); done) (by rfl) | assumption) ?_
                          refine r_move rfl ?_
                          refine r_indexAddrV rfl Try.underlying41 (by simp only [upd_get, ev, Nat.reduceEqDiff, ↓reduceIte] <;> rfl) rfl (hwho2 _ (SH.propI H (i := 2) rfl)) (by exact Try.sizeOf3) (by omega) (by omega) ?_
                          refine r_load rfl Try.isAgg3 rfl (Rs.cell0 (hwho2 _ (SH.propI H (i := 2) rfl)) hy rfl) ?_
                          refine r_buildSlice rfl Try.underlying41 Try.sizeOf3 Try.zeroValue3 rfl rfl rfl (by simp only [List.map_cons, List.map_nil, List.toList_toArray, List.foldl_cons, List.foldl_nil, List.replicate_succ, List.replicate_zero, List.set_cons_zero, List.set_cons_succ, upd_get, ev, Nat.reduceEqDiff, ↓reduceIte] <;> rfl) ?_
                          intro b25_6 w25_6 hb25_6 hs25_6 hE25_6 hB25_6
                          replace H := SH.call H (SH.fromB hE25_6 hb25_6 hs25_6 hB25_6)
                          clear hb25_6 hs25_6 hE25_6 hB25_6
                          try dsimp only [replC, List.cons_append, List.nil_append, List.append_nil, agg, cellsL, Value.cells, List.toList_toArray, List.set_cons_zero, List.set_cons_succ, spliceL, List.take_succ_cons, List.take_zero, List.drop_succ_cons, List.drop_zero, List.length_cons, List.length_nil, Nat.reduceAdd, Row.cells, Cm.L, Rq.L, Tp.L, Bat.L, Ty.L, Sd.L] at H
                          replace H := SH.row (b := b25_6) (xs := ([y] : List Int)) (n := 1) (cap := 1) H (by (repeat first | exact At.here | apply At.there); done) (by rfl) (by intro x hx; first | rfl | (simp at hx; done) | (simp only [List.mem_cons, List.not_mem_nil, or_false] at hx; rcases hx with rfl <;> first | rfl | exact (by first | rfl | assumption | exact Rs.oneC (by first | assumption | exact SH.rsR H (by (repeat first | exact At.here | apply At.there); done) | exact SH.rsO H (by (repeat first | exact At.here | apply At.there); done) | exact (Rs.nil : Rs Non _ _ _)) | (simp only [List.all_cons, List.all_nil, Bool.and_true, Bool.and_eq_true, Row.cells, Cm.L, Rq.L, Tp.L, Bat.L, Ty.L, Sd.L]; (repeat' constructor) <;> first | rfl | assumption | exact Rs.oneC (by first | assumption | exact SH.rsR H (by (repeat first | exact At.here | apply At.there); done) | exact SH.rsO H (by (repeat first | exact At.here | apply At.there); done) | exact (Rs.nil : Rs Non _ _ _)))))) (by rfl) rfl (by decide)
                          try dsimp only [replC, List.cons_append, List.nil_append, List.append_nil, agg, cellsL, Value.cells, List.toList_toArray, List.set_cons_zero, List.set_cons_succ, spliceL, List.take_succ_cons, List.take_zero, List.drop_succ_cons, List.drop_zero, List.length_cons, List.length_nil, Nat.reduceAdd, Row.cells, Cm.L, Rq.L, Tp.L, Bat.L, Ty.L, Sd.L] at H
                          refine s_append H rfl Try.underlying41 Try.underlying41 Try.type3 rfl (by simp only [upd_get, ev, Nat.reduceEqDiff, ↓reduceIte] <;> rfl) (by simp only [upd_get, ev, Nat.reduceEqDiff, ↓reduceIte] <;> rfl) (by (repeat first | exact At.here | apply At.there); done) (by first | assumption | exact SH.rsR H (by (repeat first | exact At.here | apply At.there); done) | exact SH.rsO H (by (repeat first | exact At.here | apply At.there); done) | exact (Rs.nil : Rs Non _ _ _)) (by rfl) (by rfl) (by first | omega | (simp only [Try.t3, List.length_append, List.length_cons, List.length_nil, List.length_map, maxLen]; omega) | (simp [Try.t3, maxLen]; omega)) (by first | omega | (simp only [Try.t3, List.length_append, List.length_cons, List.length_nil, List.length_map, maxLen]; omega) | (simp [Try.t3, maxLen]; omega)) ?_
                          clear H
                          intro v25_7 w25_7 g25_7 H hN25_7
                          try dsimp only [replC, List.cons_append, List.nil_append, List.append_nil] at H
                          refine r_assign rfl ?_
                          refine LW.nil ?_
                          refine blockE_norm ?_
                          refine thenE_norm (h30 _ _ ?_); clear h30; try clear K30
                          refine CW.region ?_
                          refine r_move rfl ?_
                          refine r_add rfl rfl rfl (wr_i64 (by omega) (by omega)) ?_
                          refine r_assign rfl ?_
                          refine LW.nil ?_
                          refine thenE_norm ⟨rfl, ?_⟩
                          have e1 : ins2S idK i (sb, su) y = if y ≠ i then (true, su ++ [i] ++ [y]) else (true, su ++ [i]) := by
                            rw [ins2S, if_pos (show sb = false ∧ idK i ≤ idK y from ⟨by first | exact hg21_3P | simpa using hg21_3P, show i ≤ y by omega⟩)]
                            rfl
                          rw [e1] at hs
                          first
                            | (rw [if_pos (show y ≠ i by first | assumption | omega)] at hs
                               exact ⟨T2.frm.length - (k + 1), by omega, k + 1, v25_7, g25_7, by rw [hs]; rfl, by omega, rfl, by rw [hs]; exact SH.sel H [0, 1, 2, 3, 4] (by decide) rfl⟩)
                            | (rw [if_neg (show ¬ y ≠ i by first | assumption | omega)] at hs
                               exact ⟨T2.frm.length - (k + 1), by omega, k + 1, v22_3, g22_3, by rw [hs]; rfl, by omega, rfl, by rw [hs]; exact SH.sel H [0, 1, 2, 3, 4] (by decide) rfl⟩)
                        · try simp only [decide_eq_true_eq, decide_eq_false_iff_not, Bool.and_eq_true, Bool.or_eq_true, Bool.and_eq_false_iff, Bool.or_eq_false_iff, Bool.not_eq_true', Bool.not_eq_false', beq_iff_eq, bne_iff_ne, ne_eq, Decidable.not_not] at hc9
                          refine CW.skip ?_
                          refine blockE_norm ?_
                          refine thenE_norm (h30 _ _ ?_); clear h30; try clear K30
                          refine CW.region ?_
                          refine r_move rfl ?_
                          refine r_add rfl rfl rfl (wr_i64 (by omega) (by omega)) ?_
                          refine r_assign rfl ?_
                          refine LW.nil ?_
                          refine thenE_norm ⟨rfl, ?_⟩
                          have e1 : ins2S idK i (sb, su) y = if y ≠ i then (true, su ++ [i] ++ [y]) else (true, su ++ [i]) := by
                            rw [ins2S, if_pos (show sb = false ∧ idK i ≤ idK y from ⟨by first | exact hg21_3P | simpa using hg21_3P, show i ≤ y by omega⟩)]
                            rfl
                          rw [e1] at hs
                          first
                            | (rw [if_pos (show y ≠ i by first | assumption | omega)] at hs
                               exact ⟨T2.frm.length - (k + 1), by omega, k + 1, v25_7, g25_7, by rw [hs]; rfl, by omega, rfl, by rw [hs]; exact SH.sel H [0, 1, 2, 3, 4] (by decide) rfl⟩)
                            | (rw [if_neg (show ¬ y ≠ i by first | assumption | omega)] at hs
                               exact ⟨T2.frm.length - (k + 1), by omega, k + 1, v22_3, g22_3, by rw [hs]; rfl, by omega, rfl, by rw [hs]; exact SH.sel H [0, 1, 2, 3, 4] (by decide) rfl⟩)
                      · try simp only [decide_eq_true_eq, decide_eq_false_iff_not, Bool.and_eq_true, Bool.or_eq_true, Bool.and_eq_false_iff, Bool.or_eq_false_iff, Bool.not_eq_true', Bool.not_eq_false', beq_iff_eq, bne_iff_ne, ne_eq, Decidable.not_not] at hc8
                        refine CW.skip ?_
                        refine thenE_norm (h31 _ _ ?_); clear h31; try clear K31
                        refine CW.seq (fun K35 h35 => ?_)
                        refine CW.region ?_
                        refine r_fieldAddrO rfl Try.underlying125 rfl Try.sizeOf41 (by decide) (show _ = 2 from rfl) rfl ?_
                        refine r_load rfl Try.isAgg41 rfl (by first | exact SH.cellB H (by (repeat first | exact At.here | apply At.there); done) (by rfl) | assumption) ?_
                        refine r_move rfl ?_
                        refine r_indexAddrV rfl Try.underlying41 (by simp only [upd_get, ev, Nat.reduceEqDiff, ↓reduceIte] <;> rfl) rfl (hwho2 _ (SH.propI H (i := 2) rfl)) (by exact Try.sizeOf3) (by omega) (by omega) ?_
                        refine r_load rfl Try.isAgg3 rfl (Rs.cell0 (hwho2 _ (SH.propI H (i := 2) rfl)) hy rfl) ?_
                        refine r_move rfl ?_
                        refine r_neq rfl rfl rfl ?_
                        refine LW.nil ?_
                        refine thenE_norm (h35 _ _ ?_); clear h35; try clear K35
                        refine CW.cond rfl (fun hc9 => ?_) (fun hc9 => ?_)
                        · try simp only [decide_eq_true_eq, decide_eq_false_iff_not, Bool.and_eq_true, Bool.or_eq_true, Bool.and_eq_false_iff, Bool.or_eq_false_iff, Bool.not_eq_true', Bool.not_eq_false', beq_iff_eq, bne_iff_ne, ne_eq, Decidable.not_not] at hc9
                          refine CW.region ?_
                          refine r_move rfl ?_
                          refine r_fieldAddrO rfl Try.underlying125 rfl Try.sizeOf41 (by decide) (show _ = 2 from rfl) rfl ?_
                          refine r_load rfl Try.isAgg41 rfl (by first | exact SH.cellB H (by (repeat first | exact At.here | apply At.there); done) (by rfl) | assumption) ?_
                          refine r_move rfl ?_
                          refine r_indexAddrV rfl Try.underlying41 (by simp only [upd_get, ev, Nat.reduceEqDiff, ↓reduceIte] <;> rfl) rfl (hwho2 _ (SH.propI H (i := 2) rfl)) (by exact Try.sizeOf3) (by omega) (by omega) ?_
                          refine r_load rfl Try.isAgg3 rfl (Rs.cell0 (hwho2 _ (SH.propI H (i := 2) rfl)) hy rfl) ?_
                          refine r_buildSlice rfl Try.underlying41 Try.sizeOf3 Try.zeroValue3 rfl rfl rfl (by simp only [List.map_cons, List.map_nil, List.toList_toArray, List.foldl_cons, List.foldl_nil, List.replicate_succ, List.replicate_zero, List.set_cons_zero, List.set_cons_succ, upd_get, ev, Nat.reduceEqDiff, ↓reduceIte] <;> rfl) ?_
                          intro b25_6 w25_6 hb25_6 hs25_6 hE25_6 hB25_6
                          replace H := SH.call H (SH.fromB hE25_6 hb25_6 hs25_6 hB25_6)
                          clear hb25_6 hs25_6 hE25_6 hB25_6
                          try dsimp only [replC, List.cons_append, List.nil_append, List.append_nil, agg, cellsL, Value.cells, List.toList_toArray, List.set_cons_zero, List.set_cons_succ, spliceL, List.take_succ_cons, List.take_zero, List.drop_succ_cons, List.drop_zero, List.length_cons, List.length_nil, Nat.reduceAdd, Row.cells, Cm.L, Rq.L, Tp.L, Bat.L, Ty.L, Sd.L] at H
                          replace H := SH.row (b := b25_6) (xs := ([y] : List Int)) (n := 1) (cap := 1) H (by (repeat first | exact At.here | apply At.there); done) (by rfl) (by intro x hx; first | rfl | (simp at hx; done) | (simp only [List.mem_cons, List.not_mem_nil, or_false] at hx; rcases hx with rfl <;> first | rfl | exact (by first | rfl | assumption | exact Rs.oneC (by first | assumption | exact SH.rsR H (by (repeat first | exact At.here | apply At.there); done) | exact SH.rsO H (by (repeat first | exact At.here | apply At.there); done) | exact (Rs.nil : Rs Non _ _ _)) | (simp only [List.all_cons, List.all_nil, Bool.and_true, Bool.and_eq_true, Row.cells, Cm.L, Rq.L, Tp.L, Bat.L, Ty.L, Sd.L]; (repeat' constructor) <;> first | rfl | assumption | exact Rs.oneC (by first | assumption | exact SH.rsR H (by (repeat first | exact At.here | apply At.there); done) | exact SH.rsO H (by (repeat first | exact At.here | apply At.there); done) | exact (Rs.nil : Rs Non _ _ _)))))) (by rfl) rfl (by decide)
                          try dsimp only [replC, List.cons_append, List.nil_append, List.append_nil, agg, cellsL, Value.cells, List.toList_toArray, List.set_cons_zero, List.set_cons_succ, spliceL, List.take_succ_cons, List.take_zero, List.drop_succ_cons, List.drop_zero, List.length_cons, List.length_nil, Nat.reduceAdd, Row.cells, Cm.L, Rq.L, Tp.L, Bat.L, Ty.L, Sd.L] at H
                          refine s_append H rfl Try.underlying41 Try.underlying41 Try.type3 rfl (by simp only [upd_get, ev, Nat.reduceEqDiff, ↓reduceIte] <;> rfl) (by simp only [upd_get, ev, Nat.reduceEqDiff, ↓reduceIte] <;> rfl) (by (repeat first | exact At.here | apply At.there); done) (by first | assumption | exact SH.rsR H (by (repeat first | exact At.here | apply At.there); done) | exact SH.rsO H (by (repeat first | exact At.here | apply At.there); done) | exact (Rs.nil : Rs Non _ _ _)) (by rfl) (by rfl) (by first | omega | (simp only [Try.t3, List.length_append, List.length_cons, List.length_nil, List.length_map, maxLen]; omega) | (simp [Try.t3, maxLen]; omega)) (by first | omega | (simp only [Try.t3, List.length_append, List.length_cons, List.length_nil, List.length_map, maxLen]; omega) | (simp [Try.t3, maxLen]; omega)) ?_
                          clear H
                          intro v25_7 w25_7 g25_7 H hN25_7
                          try dsimp only [replC, List.cons_append, List.nil_append, List.append_nil] at H
                          refine r_assign rfl ?_
                          refine LW.nil ?_
                          refine blockE_norm ?_
                          refine thenE_norm (h30 _ _ ?_); clear h30; try clear K30
                          refine CW.region ?_
                          refine r_move rfl ?_
                          refine r_add rfl rfl rfl (wr_i64 (by omega) (by omega)) ?_
                          refine r_assign rfl ?_
                          refine LW.nil ?_
                          refine thenE_norm ⟨rfl, ?_⟩
                          have e1 : ins2S idK i (sb, su) y = if y ≠ i then (sb, su ++ [y]) else (sb, su) := by
                            rw [ins2S, if_neg (show ¬ (sb = false ∧ idK i ≤ idK y) from fun q => by
                              have q2 : i ≤ y := q.2
                              first
                                | exact Bool.noConfusion (q.1.symm.trans (by first | exact hg21_3P | simpa using hg21_3P))
                                | omega)]
                            rfl
                          rw [e1] at hs
                          first
                            | (rw [if_pos (show y ≠ i by first | assumption | omega)] at hs
                               exact ⟨T2.frm.length - (k + 1), by omega, k + 1, v25_7, g25_7, by rw [hs]; rfl, by omega, rfl, by rw [hs]; exact SH.sel H [0, 1, 2, 3, 4] (by decide) rfl⟩)
                            | (rw [if_neg (show ¬ y ≠ i by first | assumption | omega)] at hs
                               exact ⟨T2.frm.length - (k + 1), by omega, k + 1, e, ge, by rw [hs]; rfl, by omega, rfl, by rw [hs]; exact SH.sel H [0, 1, 2, 3, 4] (by decide) rfl⟩)
                        · try simp only [decide_eq_true_eq, decide_eq_false_iff_not, Bool.and_eq_true, Bool.or_eq_true, Bool.and_eq_false_iff, Bool.or_eq_false_iff, Bool.not_eq_true', Bool.not_eq_false', beq_iff_eq, bne_iff_ne, ne_eq, Decidable.not_not] at hc9
                          refine CW.skip ?_
                          refine blockE_norm ?_
                          refine thenE_norm (h30 _ _ ?_); clear h30; try clear K30
                          refine CW.region ?_
                          refine r_move rfl ?_
                          refine r_add rfl rfl rfl (wr_i64 (by omega) (by omega)) ?_
                          refine r_assign rfl ?_
                          refine LW.nil ?_
                          refine thenE_norm ⟨rfl, ?_⟩
                          have e1 : ins2S idK i (sb, su) y = if y ≠ i then (sb, su ++ [y]) else (sb, su) := by
                            rw [ins2S, if_neg (show ¬ (sb = false ∧ idK i ≤ idK y) from fun q => by
                              have q2 : i ≤ y := q.2
                              first
                                | exact Bool.noConfusion (q.1.symm.trans (by first | exact hg21_3P | simpa using hg21_3P))
                                | omega)]
                            rfl
                          rw [e1] at hs
                          first
                            | (rw [if_pos (show y ≠ i by first | assumption | omega)] at hs
                               exact ⟨T2.frm.length - (k + 1), by omega, k + 1, v25_7, g25_7, by rw [hs]; rfl, by omega, rfl, by rw [hs]; exact SH.sel H [0, 1, 2, 3, 4] (by decide) rfl⟩)
                            | (rw [if_neg (show ¬ y ≠ i by first | assumption | omega)] at hs
                               exact ⟨T2.frm.length - (k + 1), by omega, k + 1, e, ge, by rw [hs]; rfl, by omega, rfl, by rw [hs]; exact SH.sel H [0, 1, 2, 3, 4] (by decide) rfl⟩)
                    · have hg21_3P := hg21_3
                      try simp only [decide_eq_true_eq, decide_eq_false_iff_not, Bool.and_eq_true, Bool.or_eq_true, Bool.and_eq_false_iff, Bool.or_eq_false_iff, Bool.not_eq_true', Bool.not_eq_false', beq_iff_eq, bne_iff_ne] at hg21_3P
                      refine LW.skip rfl (fun _ e => by cases e; decide) rfl hg21_3 ?_
                      refine LW.skip rfl (fun _ e => by cases e; decide) rfl hg21_3 ?_
                      refine LW.skip rfl (fun _ e => by cases e; decide) rfl hg21_3 ?_
                      refine LW.skip rfl (fun _ e => by cases e; decide) rfl hg21_3 ?_
                      refine LW.skip rfl (fun _ e => by cases e; decide) rfl hg21_3 ?_
                      refine LW.skip rfl (fun _ e => by cases e; decide) rfl hg21_3 ?_
                      refine LW.skip rfl (fun _ e => by cases e; decide) rfl hg21_3 ?_
                      refine r_pickF rfl rfl hg21_3 ?_
                      refine LW.nil ?_
                      refine thenE_norm ?_
                      refine cut (K := K32) [0, 1, 11, 12, 13, 14, 15, 128] (fun σ => ?_)
                      simp only [setL, keepE, upd_get, ev, Nat.reduceEqDiff, ↓reduceIte]
                      refine h32 _ _ ?_; clear h32; try clear K32
                      refine CW.condF rfl (by first | rfl | (simp only [decide_eq_true_eq, decide_eq_false_iff_not, Bool.and_eq_true, Bool.or_eq_true, Bool.and_eq_false_iff, Bool.or_eq_false_iff, Bool.not_eq_true', Bool.not_eq_false', beq_iff_eq, bne_iff_ne]; omega) | simp_all) ?_
                      refine CW.skip ?_
                      refine thenE_norm (h31 _ _ ?_); clear h31; try clear K31
                      refine CW.seq (fun K36 h36 => ?_)
                      refine CW.region ?_
                      refine r_fieldAddrO rfl Try.underlying125 rfl Try.sizeOf41 (by decide) (show _ = 2 from rfl) rfl ?_
                      refine r_load rfl Try.isAgg41 rfl (by first | exact SH.cellB H (by (repeat first | exact At.here | apply At.there); done) (by rfl) | assumption) ?_
                      refine r_move rfl ?_
                      refine r_indexAddrV rfl Try.underlying41 (by simp only [upd_get, ev, Nat.reduceEqDiff, ↓reduceIte] <;> rfl) rfl (hwho2 _ (SH.propI H (i := 2) rfl)) (by exact Try.sizeOf3) (by omega) (by omega) ?_
                      refine r_load rfl Try.isAgg3 rfl (Rs.cell0 (hwho2 _ (SH.propI H (i := 2) rfl)) hy rfl) ?_
                      refine r_move rfl ?_
                      refine r_neq rfl rfl rfl ?_
                      refine LW.nil ?_
                      refine thenE_norm (h36 _ _ ?_); clear h36; try clear K36
                      refine CW.cond rfl (fun hc9 => ?_) (fun hc9 => ?_)
                      · try simp only [decide_eq_true_eq, decide_eq_false_iff_not, Bool.and_eq_true, Bool.or_eq_true, Bool.and_eq_false_iff, Bool.or_eq_false_iff, Bool.not_eq_true', Bool.not_eq_false', beq_iff_eq, bne_iff_ne, ne_eq, Decidable.not_not] at hc9
                        refine CW.region ?_
                        refine r_move rfl ?_
                        refine r_fieldAddrO rfl Try.underlying125 rfl Try.sizeOf41 (by decide) (show _ = 2 from rfl) rfl ?_
                        refine r_load rfl Try.isAgg41 rfl (by first | exact SH.cellB H (by (repeat first | exact At.here | apply At.there); done) (by rfl) | assumption) ?_
                        refine r_move rfl ?_
                        refine r_indexAddrV rfl Try.underlying41 (by simp only [upd_get, ev, Nat.reduceEqDiff, ↓reduceIte] <;> rfl) rfl (hwho2 _ (SH.propI H (i := 2) rfl)) (by exact Try.sizeOf3) (by omega) (by omega) ?_
                        refine r_load rfl Try.isAgg3 rfl (Rs.cell0 (hwho2 _ (SH.propI H (i := 2) rfl)) hy rfl) ?_
                        refine r_buildSlice rfl Try.underlying41 Try.sizeOf3 Try.zeroValue3 rfl rfl rfl (by simp only [List.map_cons, List.map_nil, List.toList_toArray, List.foldl_cons, List.foldl_nil, List.replicate_succ, List.replicate_zero, List.set_cons_zero, List.set_cons_succ, upd_get, ev, Nat.reduceEqDiff, ↓reduceIte] <;> rfl) ?_
                        intro b25_6 w25_6 hb25_6 hs25_6 hE25_6 hB25_6
                        replace H := SH.call H (SH.fromB hE25_6 hb25_6 hs25_6 hB25_6)
                        clear hb25_6 hs25_6 hE25_6 hB25_6
                        try dsimp only [replC, List.cons_append, List.nil_append, List.append_nil, agg, cellsL, Value.cells, List.toList_toArray, List.set_cons_zero, List.set_cons_succ, spliceL, List.take_succ_cons, List.take_zero, List.drop_succ_cons, List.drop_zero, List.length_cons, List.length_nil, Nat.reduceAdd, Row.cells, Cm.L, Rq.L, Tp.L, Bat.L, Ty.L, Sd.L] at H
                        replace H := SH.row (b := b25_6) (xs := ([y] : List Int)) (n := 1) (cap := 1) H (by (repeat first | exact At.here | apply At.there); done) (by rfl) (by intro x hx; first | rfl | (simp at hx; done) | (simp only [List.mem_cons, List.not_mem_nil, or_false] at hx; rcases hx with rfl <;> first | rfl | exact (by first | rfl | assumption | exact Rs.oneC (by first | assumption | exact SH.rsR H (by (repeat first | exact At.here | apply At.there); done) | exact SH.rsO H (by (repeat first | exact At.here | apply At.there); done) | exact (Rs.nil : Rs Non _ _ _)) | (simp only [List.all_cons, List.all_nil, Bool.and_true, Bool.and_eq_true, Row.cells, Cm.L, Rq.L, Tp.L, Bat.L, Ty.L, Sd.L]; (repeat' constructor) <;> first | rfl | assumption | exact Rs.oneC (by first | assumption | exact SH.rsR H (by (repeat first | exact At.here | apply At.there); done) | exact SH.rsO H (by (repeat first | exact At.here | apply At.there); done) | exact (Rs.nil : Rs Non _ _ _)))))) (by rfl) rfl (by decide)
                        try dsimp only [replC, List.cons_append, List.nil_append, List.append_nil, agg, cellsL, Value.cells, List.toList_toArray, List.set_cons_zero, List.set_cons_succ, spliceL, List.take_succ_cons, List.take_zero, List.drop_succ_cons, List.drop_zero, List.length_cons, List.length_nil, Nat.reduceAdd, Row.cells, Cm.L, Rq.L, Tp.L, Bat.L, Ty.L, Sd.L] at H
                        refine s_append H rfl Try.underlying41 Try.underlying41 Try.type3 rfl (by simp only [upd_get, ev, Nat.reduceEqDiff, ↓reduceIte] <;> rfl) (by simp only [upd_get, ev, Nat.reduceEqDiff, ↓reduceIte] <;> rfl) (by (repeat first | exact At.here | apply At.there); done) (by first | assumption | exact SH.rsR H (by (repeat first | exact At.here | apply At.there); done) | exact SH.rsO H (by (repeat first | exact At.here | apply At.there); done) | exact (Rs.nil : Rs Non _ _ _)) (by rfl) (by rfl) (by first | omega | (simp only [Try.t3, List.length_append, List.length_cons, List.length_nil, List.length_map, maxLen]; omega) | (simp [Try.t3, maxLen]; omega)) (by first | omega | (simp only [Try.t3, List.length_append, List.length_cons, List.length_nil, List.length_map, maxLen]; omega) | (simp [Try.t3, maxLen]; omega)) ?_
                        clear H
                        intro v25_7 w25_7 g25_7 H hN25_7
                        try dsimp only [replC, List.cons_append, List.nil_append, List.append_nil] at H
                        refine r_assign rfl ?_
                        refine LW.nil ?_
                        refine blockE_norm ?_
                        refine thenE_norm (h30 _ _ ?_); clear h30; try clear K30
                        refine CW.region ?_
                        refine r_move rfl ?_
                        refine r_add rfl rfl rfl (wr_i64 (by omega) (by omega)) ?_
                        refine r_assign rfl ?_
                        refine LW.nil ?_
                        refine thenE_norm ⟨rfl, ?_⟩
                        have e1 : ins2S idK i (sb, su) y = if y ≠ i then (sb, su ++ [y]) else (sb, su) := by
                          rw [ins2S, if_neg (show ¬ (sb = false ∧ idK i ≤ idK y) from fun q => by
                            have q2 : i ≤ y := q.2
                            first
                              | exact Bool.noConfusion (q.1.symm.trans (by first | exact hg21_3P | simpa using hg21_3P))
                              | omega)]
                          rfl
                        rw [e1] at hs
                        first
                          | (rw [if_pos (show y ≠ i by first | assumption | omega)] at hs
                             exact ⟨T2.frm.length - (k + 1), by omega, k + 1, v25_7, g25_7, by rw [hs]; rfl, by omega, rfl, by rw [hs]; exact SH.sel H [0, 1, 2, 3, 4] (by decide) rfl⟩)
                          | (rw [if_neg (show ¬ y ≠ i by first | assumption | omega)] at hs
                             exact ⟨T2.frm.length - (k + 1), by omega, k + 1, e, ge, by rw [hs]; rfl, by omega, rfl, by rw [hs]; exact SH.sel H [0, 1, 2, 3, 4] (by decide) rfl⟩)
                      · try simp only [decide_eq_true_eq, decide_eq_false_iff_not, Bool.and_eq_true, Bool.or_eq_true, Bool.and_eq_false_iff, Bool.or_eq_false_iff, Bool.not_eq_true', Bool.not_eq_false', beq_iff_eq, bne_iff_ne, ne_eq, Decidable.not_not] at hc9
                        refine CW.skip ?_
                        refine blockE_norm ?_
                        refine thenE_norm (h30 _ _ ?_); clear h30; try clear K30
                        refine CW.region ?_
                        refine r_move rfl ?_
                        refine r_add rfl rfl rfl (wr_i64 (by omega) (by omega)) ?_
                        refine r_assign rfl ?_
                        refine LW.nil ?_
                        refine thenE_norm ⟨rfl, ?_⟩
                        have e1 : ins2S idK i (sb, su) y = if y ≠ i then (sb, su ++ [y]) else (sb, su) := by
                          rw [ins2S, if_neg (show ¬ (sb = false ∧ idK i ≤ idK y) from fun q => by
                            have q2 : i ≤ y := q.2
                            first
                              | exact Bool.noConfusion (q.1.symm.trans (by first | exact hg21_3P | simpa using hg21_3P))
                              | omega)]
                          rfl
                        rw [e1] at hs
                        first
                          | (rw [if_pos (show y ≠ i by first | assumption | omega)] at hs
                             exact ⟨T2.frm.length - (k + 1), by omega, k + 1, v25_7, g25_7, by rw [hs]; rfl, by omega, rfl, by rw [hs]; exact SH.sel H [0, 1, 2, 3, 4] (by decide) rfl⟩)
                          | (rw [if_neg (show ¬ y ≠ i by first | assumption | omega)] at hs
                             exact ⟨T2.frm.length - (k + 1), by omega, k + 1, e, ge, by rw [hs]; rfl, by omega, rfl, by rw [hs]; exact SH.sel H [0, 1, 2, 3, 4] (by decide) rfl⟩)
                  · try simp only [decide_eq_true_eq, decide_eq_false_iff_not, Bool.and_eq_true, Bool.or_eq_true, Bool.and_eq_false_iff, Bool.or_eq_false_iff, Bool.not_eq_true', Bool.not_eq_false', beq_iff_eq, bne_iff_ne, ne_eq, Decidable.not_not] at hc7
                    refine CW.exit (thenE_exit (thenE_exit (blockE_hit ?_)))
                    refine thenE_norm (h26 _ _ ?_); clear h26; try clear K26
                    refine CW.seqJ [0, 11, 12] [13] (fun vs w' => ∃ (e : Value) (ge : Option Nat), vs = [e] ∧ SH FR Any w w' [.B p 71 [.int .i64 s1, .int .i64 s2, u], .O 125 u raws1 g1, .I FI (SdA FI s1 raws s3), .B b11_7 125 [.int .i64 d1, .int .i64 d2, d3, .bool d4, .int .i64 d5, .int .i64 d6, .int .i64 d7, .int .i64 d8, d9, .bool d10], .O 3 e (putK idK T2.frm i) ge]) ?_ ?_
                    · refine CW.seq (fun K38 h38 => ?_)
                      obtain rfl : k = T2.frm.length := by omega
                      have hend := ins2P_end (m := i) hup
                      have hl := hip T2.frm.length
                      generalize ins2P idK i T2.frm T2.frm.length = S at *
                      obtain ⟨sb, su⟩ := S
                      dsimp only at hend hl H ⊢
                      refine CW.region ?_
                      refine r_move rfl ?_
                      refine r_not rfl rfl ?_
                      refine LW.nil ?_
                      refine thenE_norm (h38 _ _ ?_); clear h38; try clear K38
                      refine CW.cond rfl (fun hc10 => ?_) (fun hc10 => ?_)
                      · try simp only [decide_eq_true_eq, decide_eq_false_iff_not, Bool.and_eq_true, Bool.or_eq_true, Bool.and_eq_false_iff, Bool.or_eq_false_iff, Bool.not_eq_true', Bool.not_eq_false', beq_iff_eq, bne_iff_ne, ne_eq, Decidable.not_not] at hc10
                        refine CW.region ?_
                        refine r_move rfl ?_
                        refine r_move rfl ?_
                        refine r_buildSlice rfl Try.underlying41 Try.sizeOf3 Try.zeroValue3 rfl rfl rfl (by simp only [List.map_cons, List.map_nil, List.toList_toArray, List.foldl_cons, List.foldl_nil, List.replicate_succ, List.replicate_zero, List.set_cons_zero, List.set_cons_succ, upd_get, ev, Nat.reduceEqDiff, ↓reduceIte] <;> rfl) ?_
                        intro b27_2 w27_2 hb27_2 hs27_2 hE27_2 hB27_2
                        replace H := SH.call H (SH.fromB hE27_2 hb27_2 hs27_2 hB27_2)
                        clear hb27_2 hs27_2 hE27_2 hB27_2
                        try dsimp only [replC, List.cons_append, List.nil_append, List.append_nil, agg, cellsL, Value.cells, List.toList_toArray, List.set_cons_zero, List.set_cons_succ, spliceL, List.take_succ_cons, List.take_zero, List.drop_succ_cons, List.drop_zero, List.length_cons, List.length_nil, Nat.reduceAdd, Row.cells, Cm.L, Rq.L, Tp.L, Bat.L, Ty.L, Sd.L] at H
                        replace H := SH.row (b := b27_2) (xs := ([i] : List Int)) (n := 1) (cap := 1) H (by (repeat first | exact At.here | apply At.there); done) (by rfl) (by intro x hx; first | rfl | (simp at hx; done) | (simp only [List.mem_cons, List.not_mem_nil, or_false] at hx; rcases hx with rfl <;> first | rfl | exact (by first | rfl | assumption | exact Rs.oneC (by first | assumption | exact SH.rsR H (by (repeat first | exact At.here | apply At.there); done) | exact SH.rsO H (by (repeat first | exact At.here | apply At.there); done) | exact (Rs.nil : Rs Non _ _ _)) | (simp only [List.all_cons, List.all_nil, Bool.and_true, Bool.and_eq_true, Row.cells, Cm.L, Rq.L, Tp.L, Bat.L, Ty.L, Sd.L]; (repeat' constructor) <;> first | rfl | assumption | exact Rs.oneC (by first | assumption | exact SH.rsR H (by (repeat first | exact At.here | apply At.there); done) | exact SH.rsO H (by (repeat first | exact At.here | apply At.there); done) | exact (Rs.nil : Rs Non _ _ _)))))) (by rfl) rfl (by decide)
                        try dsimp only [replC, List.cons_append, List.nil_append, List.append_nil, agg, cellsL, Value.cells, List.toList_toArray, List.set_cons_zero, List.set_cons_succ, spliceL, List.take_succ_cons, List.take_zero, List.drop_succ_cons, List.drop_zero, List.length_cons, List.length_nil, Nat.reduceAdd, Row.cells, Cm.L, Rq.L, Tp.L, Bat.L, Ty.L, Sd.L] at H
                        first
                          | refine s_append H rfl Try.underlying41 Try.underlying41 Try.type3 rfl (by simp only [upd_get, ev, Nat.reduceEqDiff, ↓reduceIte] <;> rfl) (by simp only [upd_get, ev, Nat.reduceEqDiff, ↓reduceIte] <;> rfl) (by (repeat first | exact At.here | apply At.there); done) (by first | assumption | exact SH.rsR H (by (repeat first | exact At.here | apply At.there); done) | exact SH.rsO H (by (repeat first | exact At.here | apply At.there); done) | exact (Rs.nil : Rs Non _ _ _)) (by rfl) (by rfl) (by first | omega | (simp only [Try.t3, List.length_append, List.length_cons, List.length_nil, List.length_map, maxLen]; omega) | (simp [Try.t3, maxLen]; omega)) (by first | omega | (simp only [Try.t3, List.length_append, List.length_cons, List.length_nil, List.length_map, maxLen]; omega) | (simp [Try.t3, maxLen]; omega)) ?_
                          | refine s_appendNil H rfl Try.underlying41 Try.underlying41 Try.type3 rfl rfl (by simp only [upd_get, ev, Nat.reduceEqDiff, ↓reduceIte] <;> rfl) (by first | assumption | exact SH.rsR H (by (repeat first | exact At.here | apply At.there); done) | exact SH.rsO H (by (repeat first | exact At.here | apply At.there); done) | exact (Rs.nil : Rs Non _ _ _)) (by rfl) (by rfl) (by first | omega | (simp only [Try.t3, List.length_append, List.length_cons, List.length_nil, List.length_map, maxLen]; omega) | (simp [Try.t3, maxLen]; omega)) ?_
                        clear H
                        intro v27_3 w27_3 g27_3 H hN27_3
                        try dsimp only [replC, List.cons_append, List.nil_append, List.append_nil] at H
                        refine r_assign rfl ?_
                        refine LW.nil ?_
                        refine thenE_norm ?_
                        exact ⟨rfl, v27_3, g27_3, rfl, by rw [← hend, if_neg (by rw [show sb = false by simpa using hc10]; exact Bool.false_ne_true)]; exact SH.sel H [0, 1, 2, 3, 4] (by decide) rfl⟩
                      · try simp only [decide_eq_true_eq, decide_eq_false_iff_not, Bool.and_eq_true, Bool.or_eq_true, Bool.and_eq_false_iff, Bool.or_eq_false_iff, Bool.not_eq_true', Bool.not_eq_false', beq_iff_eq, bne_iff_ne, ne_eq, Decidable.not_not] at hc10
                        refine CW.skip ?_
                        refine thenE_norm ?_
                        exact ⟨rfl, e, ge, rfl, by rw [← hend, if_pos (show sb = true by simpa using hc10)]; exact SH.sel H [0, 1, 2, 3, 4] (by decide) rfl⟩
                    try clear H
                    rintro vs wJ σ ⟨e, ge, rfl, H⟩
                    simp only [setL, keepE, upd_get, ev, Nat.reduceEqDiff, ↓reduceIte]
                    have hpl := putK_len (k := idK) (l := T2.frm) (m := i)
                    have hoe : oneC e = true := Rs.oneC (SH.rsO H (i := 4) rfl)
                    refine CW.seq (fun K39 h39 => ?_)
                    refine CW.region ?_
                    refine r_move rfl ?_
                    refine r_fieldAddrO rfl Try.underlying125 rfl Try.sizeOf41 (by decide) (show _ = 2 from rfl) rfl ?_
                    refine s_store H Try.sizeOf41 rfl (by simp only [upd_get, ev, Nat.reduceEqDiff, ↓reduceIte] <;> rfl) (by first | rfl | assumption | exact Rs.oneC (by first | assumption | exact SH.rsR H (by (repeat first | exact At.here | apply At.there); done) | exact SH.rsO H (by (repeat first | exact At.here | apply At.there); done) | exact (Rs.nil : Rs Non _ _ _)) | (simp only [List.all_cons, List.all_nil, Bool.and_true, Bool.and_eq_true, Row.cells, Cm.L, Rq.L, Tp.L, Bat.L, Ty.L, Sd.L]; (repeat' constructor) <;> first | rfl | assumption | exact Rs.oneC (by first | assumption | exact SH.rsR H (by (repeat first | exact At.here | apply At.there); done) | exact SH.rsO H (by (repeat first | exact At.here | apply At.there); done) | exact (Rs.nil : Rs Non _ _ _)))) (by (repeat first | exact At.here | apply At.there); done) (by first | (simp; done) | decide | omega) ?_
                    clear H
                    intro w28_2 H
                    try dsimp only [replC, List.cons_append, List.nil_append, List.append_nil, agg, cellsL, Value.cells, List.toList_toArray, List.set_cons_zero, List.set_cons_succ, spliceL, List.take_succ_cons, List.take_zero, List.drop_succ_cons, List.drop_zero, List.length_cons, List.length_nil, Nat.reduceAdd, Row.cells, Cm.L, Rq.L, Tp.L, Bat.L, Ty.L, Sd.L] at H
                    refine LW.nil ?_
                    refine thenE_norm ?_
                    refine cut (K := K39) [0, 11, 12, 13] (fun σ => ?_)
                    simp only [setL, keepE, upd_get, ev, Nat.reduceEqDiff, ↓reduceIte]
                    refine h39 _ _ ?_; clear h39; try clear K39
                    refine CW.seq (fun K40 h40 => ?_)
                    refine CW.region ?_
                    refine r_move rfl ?_
                    first
                      | refine r_lenV rfl Try.underlying41 (by simp only [upd_get, ev, Nat.reduceEqDiff, ↓reduceIte] <;> rfl) (by first | assumption | exact SH.rsR H (by (repeat first | exact At.here | apply At.there); done) | exact SH.rsO H (by (repeat first | exact At.here | apply At.there); done) | exact (Rs.nil : Rs Non _ _ _)) ?_
                      | refine r_len rfl Try.underlying41 rfl ?_
                    refine r_move rfl ?_
                    refine r_nilCheck rfl rfl ?_
                    refine r_fieldAddrO rfl Try.underlying71 rfl Try.sizeOf3 (by decide) (show _ = 0 from rfl) rfl ?_
                    refine r_load rfl Try.isAgg3 rfl (by first | exact SH.cellB H (by (repeat first | exact At.here | apply At.there); done) (by rfl) | exact SH.cellI H (by (repeat first | exact At.here | apply At.there); done) (by rfl) | assumption) ?_
                    refine r_call rfl Try.call81 (by simp only [List.map_cons, List.map_nil, List.map_toArray, List.toList_toArray, upd_get, ev, Nat.reduceEqDiff, ↓reduceIte] <;> rfl) (QuorumR_c _ _ ⟨hn0, hn1⟩) ?_
                    rintro _ _ ⟨rfl, rfl⟩
                    refine ⟨_, rfl, ?_⟩
                    refine r_geq rfl rfl rfl ?_
                    refine r_fieldAddrO rfl Try.underlying125 rfl Try.sizeOf4 (by decide) (show _ = 9 from rfl) rfl ?_
                    refine s_store H Try.sizeOf4 rfl (by simp only [upd_get, ev, Nat.reduceEqDiff, ↓reduceIte] <;> rfl) (by first | rfl | assumption | exact Rs.oneC (by first | assumption | exact SH.rsR H (by (repeat first | exact At.here | apply At.there); done) | exact SH.rsO H (by (repeat first | exact At.here | apply At.there); done) | exact (Rs.nil : Rs Non _ _ _)) | (simp only [List.all_cons, List.all_nil, Bool.and_true, Bool.and_eq_true, Row.cells, Cm.L, Rq.L, Tp.L, Bat.L, Ty.L, Sd.L]; (repeat' constructor) <;> first | rfl | assumption | exact Rs.oneC (by first | assumption | exact SH.rsR H (by (repeat first | exact At.here | apply At.there); done) | exact SH.rsO H (by (repeat first | exact At.here | apply At.there); done) | exact (Rs.nil : Rs Non _ _ _)))) (by (repeat first | exact At.here | apply At.there); done) (by first | (simp; done) | decide | omega) ?_
                    clear H
                    intro w29_9 H
                    try dsimp only [replC, List.cons_append, List.nil_append, List.append_nil, agg, cellsL, Value.cells, List.toList_toArray, List.set_cons_zero, List.set_cons_succ, spliceL, List.take_succ_cons, List.take_zero, List.drop_succ_cons, List.drop_zero, List.length_cons, List.length_nil, Nat.reduceAdd, Row.cells, Cm.L, Rq.L, Tp.L, Bat.L, Ty.L, Sd.L] at H
                    refine LW.nil ?_
                    refine thenE_norm ?_
                    refine cut (K := K40) [0, 11, 12] (fun σ => ?_)
                    simp only [setL, keepE, upd_get, ev, Nat.reduceEqDiff, ↓reduceIte]
                    refine h40 _ _ ?_; clear h40; try clear K40
                    refine CW.seq (fun K41 h41 => ?_)
                    have hrow := SH.rsO H (i := 1) rfl
                    refine CW.drawP [0, 3] [] H (by dsimp only [pickC, nthC] <;> rfl) (by repeat first | exact List.Sublist.refl _ | exact List.nil_sublist _ | apply List.Sublist.cons_cons | apply List.Sublist.cons) (by kernel_rfl) rfl ?_
                    clear H
                    intro w30d H
                    refine DL.take (i := 0) [] rfl (by kernel_rfl) (by kernel_rfl) (by kernel_rfl) (by kernel_rfl) rfl rfl (fun u H => x_move ) (SH.sub H (by repeat first | exact List.Sublist.refl _ | exact List.nil_sublist _ | apply List.Sublist.cons_cons | apply List.Sublist.cons)) ?_
                    refine DL.take (i := 1) [] rfl (by kernel_rfl) (by kernel_rfl) (by kernel_rfl) (by kernel_rfl) rfl rfl (fun u H => x_nilCheck rfl) (SH.sub H (by repeat first | exact List.Sublist.refl _ | exact List.nil_sublist _ | apply List.Sublist.cons_cons | apply List.Sublist.cons)) ?_
                    refine DL.take (i := 2) [] rfl (by kernel_rfl) (by kernel_rfl) (by kernel_rfl) (by kernel_rfl) rfl rfl (fun u H => x_fieldAddrO Try.underlying71 rfl Try.sizeOf69 (by decide) (show _ = 2 from rfl) rfl) (SH.sub H (by repeat first | exact List.Sublist.refl _ | exact List.nil_sublist _ | apply List.Sublist.cons_cons | apply List.Sublist.cons)) ?_
                    refine DL.take (i := 3) [] rfl (by kernel_rfl) (by kernel_rfl) (by kernel_rfl) (by kernel_rfl) rfl rfl (fun u H => x_load Try.isAgg69 rfl (by first | exact SH.cellB H (by (repeat first | exact At.here | apply At.there); done) (by rfl) | exact SH.cellI H (by (repeat first | exact At.here | apply At.there); done) (by rfl) | assumption)) (SH.sub H (by repeat first | exact List.Sublist.refl _ | exact List.nil_sublist _ | apply List.Sublist.cons_cons | apply List.Sublist.cons)) ?_
                    refine DL.take (i := 4) [] rfl (by kernel_rfl) (by kernel_rfl) (by kernel_rfl) (by kernel_rfl) rfl rfl (fun u H => x_move ) (SH.sub H (by repeat first | exact List.Sublist.refl _ | exact List.nil_sublist _ | apply List.Sublist.cons_cons | apply List.Sublist.cons)) ?_
                    refine DL.take (i := 5) [] rfl (by kernel_rfl) (by kernel_rfl) (by kernel_rfl) (by kernel_rfl) rfl rfl (fun u H => x_loadA Try.isAgg125 Try.sizeOf125 rfl (by first | exact SH.cells H (by (repeat first | exact At.here | apply At.there); done)) (by rfl)) (SH.sub H (by repeat first | exact List.Sublist.refl _ | exact List.nil_sublist _ | apply List.Sublist.cons_cons | apply List.Sublist.cons)) ?_
                    refine DL.take (i := 6) [] rfl (by kernel_rfl) (by kernel_rfl) (by kernel_rfl) (by kernel_rfl) rfl rfl (fun u H => x_indexAddrW Try.underlying69 (by simp only [upd_get, ev, Nat.reduceEqDiff, ↓reduceIte] <;> rfl) rfl hrow (by exact Try.sizeOf125) (by omega) (by omega)) (SH.sub H (by repeat first | exact List.Sublist.refl _ | exact List.nil_sublist _ | apply List.Sublist.cons_cons | apply List.Sublist.cons)) ?_
                    refine DL.one (i := 7) (by kernel_rfl) rfl rfl ?_
                    refine s_storeRA (o := 0) (x1 := (⟨d1, d2, e, ⟨d4, d5, ⟨d6, d7⟩, d8, d9⟩, decide (s1 / 2 + 1 ≤ ((putK idK T2.frm i).length : Int))⟩ : Sd)) H Try.sizeOf125 rfl (by simp only [upd_get, ev, Nat.reduceEqDiff, ↓reduceIte] <;> rfl) (by simp only [cellsL, agg, List.toList_toArray, Row.cells, Cm.L, Rq.L, Tp.L, Bat.L, Ty.L, Sd.L] <;> rfl) (by rfl) (by first | rfl | assumption | exact Rs.oneC (by first | assumption | exact SH.rsR H (by (repeat first | exact At.here | apply At.there); done) | exact SH.rsO H (by (repeat first | exact At.here | apply At.there); done) | exact (Rs.nil : Rs Non _ _ _)) | (simp only [List.all_cons, List.all_nil, Bool.and_true, Bool.and_eq_true, Row.cells, Cm.L, Rq.L, Tp.L, Bat.L, Ty.L, Sd.L]; (repeat' constructor) <;> first | rfl | assumption | exact Rs.oneC (by first | assumption | exact SH.rsR H (by (repeat first | exact At.here | apply At.there); done) | exact SH.rsO H (by (repeat first | exact At.here | apply At.there); done) | exact (Rs.nil : Rs Non _ _ _)))) (by (repeat first | exact At.here | apply At.there); done) hr1 (by rfl) (by rfl) (by rfl) (by first | rfl | assumption | exact Rs.oneC (by first | assumption | exact SH.rsR H (by (repeat first | exact At.here | apply At.there); done) | exact SH.rsO H (by (repeat first | exact At.here | apply At.there); done) | exact (Rs.nil : Rs Non _ _ _)) | (simp only [List.all_cons, List.all_nil, Bool.and_true, Bool.and_eq_true, Row.cells, Cm.L, Rq.L, Tp.L, Bat.L, Ty.L, Sd.L]; (repeat' constructor) <;> first | rfl | assumption | exact Rs.oneC (by first | assumption | exact SH.rsR H (by (repeat first | exact At.here | apply At.there); done) | exact SH.rsO H (by (repeat first | exact At.here | apply At.there); done) | exact (Rs.nil : Rs Non _ _ _)))) ?_
                    clear H
                    intro w30_7 H
                    try dsimp only [replC, List.cons_append, List.nil_append, List.append_nil, agg, cellsL, Value.cells, List.toList_toArray, List.set_cons_zero, List.set_cons_succ, spliceL, List.take_succ_cons, List.take_zero, List.drop_succ_cons, List.drop_zero, List.length_cons, List.length_nil, Nat.reduceAdd, Row.cells, Cm.L, Rq.L, Tp.L, Bat.L, Ty.L, Sd.L] at H
                    refine LW.nil (thenE_norm ⟨fun _ => (SH.sub H (by repeat first | exact List.Sublist.refl _ | exact List.nil_sublist _ | apply List.Sublist.cons_cons | apply List.Sublist.cons)), ?_⟩)
                    refine DL.done (by kernel_rfl) ?_
                    refine thenE_norm ?_
                    refine cut (K := K41) [] (fun σ => ?_)
                    simp only [setL, keepE, upd_get, ev, Nat.reduceEqDiff, ↓reduceIte]
                    refine h41 _ _ ?_; clear h41; try clear K41
                    refine CW.seq (fun K42 h42 => ?_)
                    refine CW.region ?_
                    refine r_assign rfl ?_
                    refine LW.nil ?_
                    refine thenE_norm (h42 _ _ ?_); clear h42; try clear K42
                    refine CW.ret (ret1 Try.results36 (by simp only [upd_get, ev, Nat.reduceEqDiff, ↓reduceIte]; rfl) ?_)
                    rw [hear_put hgo hk hnf hnold]
                    dsimp only
                    rw [hT2]
                    obtain ⟨FN', K⟩ := RLnA.mk2 (SH.sel H [0, 1, 4] (by decide) rfl)
                    refine ⟨_, _, _, _, _, rfl, K, fun K u h hw h6 => ?_⟩
                    rw [hset]
                    exact All2.set qq (hall K u h h6) (hrel2 K u _ _ h hw h6)
          · obtain ⟨⟨pk, t⟩, hp, hpr⟩ := All2.get hm hr
            have hpk : pk = sl := by rw [← hrs]; exact hpr.sl.symm
            rw [hpk] at hp hpr
            obtain ⟨hlm, hset⟩ := look_idx hnd hp
            have hql := lt_of_get hr
            have hrch := hpr.ch
            have hrba := hpr.ba
            dsimp only at hrch hrba
            refine CW.region ?_
            refine r_move rfl ?_
            refine r_move rfl ?_
            refine r_nilCheck rfl rfl ?_
            refine r_fieldAddrO rfl Try.underlying71 rfl Try.sizeOf3 (by decide) (show _ = 1 from rfl) rfl ?_
            refine r_load rfl Try.isAgg3 rfl (by first | exact SH.cellB H (by (repeat first | exact At.here | apply At.there); done) (by rfl) | exact SH.cellI H (by (repeat first | exact At.here | apply At.there); done) (by rfl) | assumption) ?_
            refine r_leq rfl rfl rfl ?_
            refine r_move rfl ?_
            refine LW.splitB (t := 50) rfl (fun hg4_7 => ?_) (fun hg4_7 => ?_)
            · have hg4_7P := hg4_7
              try simp only [decide_eq_true_eq, decide_eq_false_iff_not, Bool.and_eq_true, Bool.or_eq_true, Bool.and_eq_false_iff, Bool.or_eq_false_iff, Bool.not_eq_true', Bool.not_eq_false', beq_iff_eq, bne_iff_ne] at hg4_7P
              refine LW.skip rfl (fun _ e => by cases e; decide) rfl hg4_7 ?_
              refine LW.skip rfl (fun _ e => by cases e; decide) rfl hg4_7 ?_
              refine LW.skip rfl (fun _ e => by cases e; decide) rfl hg4_7 ?_
              refine LW.skipU rfl (fun _ e => by cases e; decide) rfl ?_
              refine LW.skipU rfl (fun _ e => by cases e; decide) rfl ?_
              refine LW.skipU rfl (fun _ e => by cases e; decide) rfl ?_
              refine LW.skipU rfl (fun _ e => by cases e; decide) rfl ?_
              refine LW.skipU rfl (fun _ e => by cases e; decide) rfl ?_
              refine LW.skipU rfl (fun _ e => by cases e; decide) rfl ?_
              refine LW.skipU rfl (fun _ e => by cases e; decide) rfl ?_
              refine LW.skipU rfl (fun _ e => by cases e; decide) rfl ?_
              refine LW.skip rfl (fun _ e => by cases e; decide) rfl hg4_7 ?_
              refine r_pickT rfl rfl hg4_7 ?_
              refine LW.nil ?_
              refine thenE_norm ?_
              refine cut (K := K10) [0, 1, 2, 3, 9, 11, 63] (fun σ => ?_)
              simp only [setL, keepE, upd_get, ev, Nat.reduceEqDiff, ↓reduceIte]
              refine h10 _ _ ?_; clear h10; try clear K10
              refine CW.condT rfl (by first | rfl | (simp only [decide_eq_true_eq, decide_eq_false_iff_not, Bool.and_eq_true, Bool.or_eq_true, Bool.and_eq_false_iff, Bool.or_eq_false_iff, Bool.not_eq_true', Bool.not_eq_false', beq_iff_eq, bne_iff_ne]; omega) | simp_all) ?_
              refine CW.seq (fun K43 h43 => ?_)
              refine CW.region ?_
              refine r_assign rfl ?_
              refine LW.nil ?_
              refine thenE_norm (h43 _ _ ?_); clear h43; try clear K43
              refine CW.ret (thenE_ret (ret1 Try.results36 (by simp only [upd_get, ev, Nat.reduceEqDiff, ↓reduceIte]; rfl) ?_))
              rw [hear_done hgo (.inl (by first | assumption | omega))]
              obtain ⟨FN', K⟩ := RLnA.mk2 (SH.sel (H.addO (α := Int) 3) [0, 1, 5] (by decide) rfl)
              exact ⟨_, _, _, _, _, rfl, K, fun K u h _ _ => h⟩
            · have hg4_7P := hg4_7
              try simp only [decide_eq_true_eq, decide_eq_false_iff_not, Bool.and_eq_true, Bool.or_eq_true, Bool.and_eq_false_iff, Bool.or_eq_false_iff, Bool.not_eq_true', Bool.not_eq_false', beq_iff_eq, bne_iff_ne] at hg4_7P
              refine LW.want rfl rfl hg4_7 ?_
              refine r_move rfl ?_
              refine LW.want rfl rfl hg4_7 ?_
              refine r_geq rfl rfl rfl ?_
              refine LW.want rfl rfl hg4_7 ?_
              refine r_move rfl ?_
              refine LW.known (t := 53) (c := true) rfl (by first | rfl | (simp only [decide_eq_true_eq, decide_eq_false_iff_not, Bool.and_eq_true, Bool.or_eq_true, Bool.and_eq_false_iff, Bool.or_eq_false_iff, Bool.not_eq_true', Bool.not_eq_false', beq_iff_eq, bne_iff_ne]; omega) | simp_all) (fun hg4_10 => ?_)
              refine LW.want rfl rfl hg4_10 ?_
              refine r_move rfl ?_
              refine LW.want rfl rfl hg4_10 ?_
              refine r_nilCheck rfl rfl ?_
              refine LW.want rfl rfl hg4_10 ?_
              refine r_fieldAddrO rfl Try.underlying71 rfl Try.sizeOf69 (by decide) (show _ = 2 from rfl) rfl ?_
              refine LW.want rfl rfl hg4_10 ?_
              refine r_load rfl Try.isAgg69 rfl (by first | exact SH.cellB H (by (repeat first | exact At.here | apply At.there); done) (by rfl) | exact SH.cellI H (by (repeat first | exact At.here | apply At.there); done) (by rfl) | assumption) ?_
              refine LW.want rfl rfl hg4_10 ?_
              refine r_move rfl ?_
              refine LW.want rfl rfl hg4_10 ?_
              refine r_indexAddrV rfl Try.underlying69 (by simp only [upd_get, ev, Nat.reduceEqDiff, ↓reduceIte] <;> rfl) rfl (by first | assumption | exact SH.rsR H (by (repeat first | exact At.here | apply At.there); done) | exact SH.rsO H (by (repeat first | exact At.here | apply At.there); done) | exact (Rs.nil : Rs Non _ _ _)) (by exact Try.sizeOf125) (by omega) (by omega) ?_
              refine LW.want rfl rfl hg4_10 ?_
              refine r_fieldAddrO rfl Try.underlying125 rfl Try.sizeOf4 (by decide) (show _ + 9 = _ from rfl) rfl ?_
              refine LW.want rfl rfl hg4_10 ?_
              refine r_load rfl Try.isAgg4 rfl (by first | exact Rs.cell (o := 9) (by first | assumption | exact SH.rsR H (by (repeat first | exact At.here | apply At.there); done) | exact SH.rsO H (by (repeat first | exact At.here | apply At.there); done) | exact (Rs.nil : Rs Non _ _ _)) (by assumption) (by rfl) | exact Rs.cell0 (by first | assumption | exact SH.rsR H (by (repeat first | exact At.here | apply At.there); done) | exact SH.rsO H (by (repeat first | exact At.here | apply At.there); done) | exact (Rs.nil : Rs Non _ _ _)) (by assumption) (by rfl) | assumption) ?_
              refine LW.want rfl rfl hg4_7 ?_
              refine r_pickT rfl rfl hg4_10 ?_
              refine r_pickF rfl rfl hg4_7 ?_
              refine LW.nil ?_
              refine thenE_norm ?_
              refine cut (K := K10) [0, 1, 2, 3, 9, 11, 63] (fun σ => ?_)
              simp only [setL, keepE, upd_get, ev, Nat.reduceEqDiff, ↓reduceIte]
              refine h10 _ _ ?_; clear h10; try clear K10
              refine CW.cond rfl (fun hc2 => ?_) (fun hc2 => ?_)
              · try simp only [decide_eq_true_eq, decide_eq_false_iff_not, Bool.and_eq_true, Bool.or_eq_true, Bool.and_eq_false_iff, Bool.or_eq_false_iff, Bool.not_eq_true', Bool.not_eq_false', beq_iff_eq, bne_iff_ne, ne_eq, Decidable.not_not] at hc2
                refine CW.seq (fun K44 h44 => ?_)
                refine CW.region ?_
                refine r_assign rfl ?_
                refine LW.nil ?_
                refine thenE_norm (h44 _ _ ?_); clear h44; try clear K44
                refine CW.ret (thenE_ret (ret1 Try.results36 (by simp only [upd_get, ev, Nat.reduceEqDiff, ↓reduceIte]; rfl) ?_))
                rw [hear_done hgo (.inr (by dsimp only; rw [hlm]; rw [hrch] at hc2; exact hc2))]
                obtain ⟨FN', K⟩ := RLnA.mk2 (SH.sel (H.addO (α := Int) 3) [0, 1, 5] (by decide) rfl)
                exact ⟨_, _, _, _, _, rfl, K, fun K u h _ _ => h⟩
              · try simp only [decide_eq_true_eq, decide_eq_false_iff_not, Bool.and_eq_true, Bool.or_eq_true, Bool.and_eq_false_iff, Bool.or_eq_false_iff, Bool.not_eq_true', Bool.not_eq_false', beq_iff_eq, bne_iff_ne, ne_eq, Decidable.not_not] at hc2
                refine CW.skip ?_
                refine thenE_norm (h9 _ _ ?_); clear h9; try clear K9
                refine CW.seq (fun K45 h45 => ?_)
                refine CW.seq (fun K46 h46 => ?_)
                have hk : ¬ (sl ≤ (⟨s1, s2, s3⟩ : LnS).done ∨ chosenT s1 (lookM s3 sl) = true) := by
                  rintro (q | q)
                  · dsimp only at q; omega
                  · rw [hlm] at q
                    first
                      | cases q; done
                      | (rw [hrch] at hc2; simp at hc2; have q2 := of_decide_eq_true q; omega)
                refine CW.region ?_
                refine r_move rfl ?_
                refine r_move rfl ?_
                refine r_nilCheck rfl rfl ?_
                refine r_fieldAddrO rfl Try.underlying71 rfl Try.sizeOf3 (by decide) (show _ = 1 from rfl) rfl ?_
                refine r_load rfl Try.isAgg3 rfl (by first | exact SH.cellB H (by (repeat first | exact At.here | apply At.there); done) (by rfl) | exact SH.cellI H (by (repeat first | exact At.here | apply At.there); done) (by rfl) | assumption) ?_
                refine r_sub rfl rfl rfl (wr_i64 (by omega) (by omega)) ?_
                refine r_gtr rfl rfl rfl ?_
                refine LW.nil ?_
                refine thenE_norm (h46 _ _ ?_); clear h46; try clear K46
                refine CW.cond rfl (fun hc3 => ?_) (fun hc3 => ?_)
                · try simp only [decide_eq_true_eq, decide_eq_false_iff_not, Bool.and_eq_true, Bool.or_eq_true, Bool.and_eq_false_iff, Bool.or_eq_false_iff, Bool.not_eq_true', Bool.not_eq_false', beq_iff_eq, bne_iff_ne, ne_eq, Decidable.not_not] at hc3
                  refine CW.seq (fun K47 h47 => ?_)
                  refine CW.region ?_
                  refine r_assign rfl ?_
                  refine LW.nil ?_
                  refine thenE_norm ?_
                  refine cut (K := K47) [10] (fun σ => ?_)
                  simp only [setL, keepE, upd_get, ev, Nat.reduceEqDiff, ↓reduceIte]
                  refine h47 _ _ ?_; clear h47; try clear K47
                  refine CW.ret (thenE_ret (ret1 Try.results36 (by simp only [upd_get, ev, Nat.reduceEqDiff, ↓reduceIte]; rfl) ?_))
                  rw [hear_full hgo hk (show 9 < sl - s2 by omega)]
                  obtain ⟨FN', K⟩ := RLnA.mk2 (SH.sel (H.addO (α := Int) 3) [0, 1, 5] (by decide) rfl)
                  exact ⟨_, _, _, _, _, rfl, K, fun K u h _ _ => h⟩
                · try simp only [decide_eq_true_eq, decide_eq_false_iff_not, Bool.and_eq_true, Bool.or_eq_true, Bool.and_eq_false_iff, Bool.or_eq_false_iff, Bool.not_eq_true', Bool.not_eq_false', beq_iff_eq, bne_iff_ne, ne_eq, Decidable.not_not] at hc3
                  refine CW.skip ?_
                  refine thenE_norm (h45 _ _ ?_); clear h45; try clear K45
                  refine CW.seqJ [0, 1, 2, 3, 9] [11] (fun vs w' => ∃ (q : Nat) (u : Value) (raws1 : List Sd) (g1 : Option Nat) (r1 : Sd) (t1 : Tm) (h1 : List (Int × Tm)), vs = [.int .i64 q] ∧ (raws1.length ≤ 1001 ∧ raws1[q]? = some r1 ∧ h1[q]? = some (sl, t1) ∧ (∀ y, setM s3 sl y = h1.set q (sl, y)) ∧
  r1.ballot = t1.ballot ∧ ((lookM s3 sl = none ∧ t1 = tyNew b ⟨x1, x2, ⟨x3, x4⟩, x5, x6⟩ rs) ∨ lookM s3 sl = some t1) ∧ (¬ (sl ≤ (⟨s1, s2, s3⟩ : LnS).done ∨ chosenT s1 (lookM s3 sl) = true) ∧ ¬ 9 < sl - s2) ∧
  (∀ u, SdA FI s1 raws s3 u → Rs FI u r1.who t1.frm) ∧ (∀ (K : Nat → Prop) (u : World), SdA K s1 raws s3 u → Rs K u x6 rs → SdA K s1 raws1 h1 u)) ∧
  SH FR Any w w' [.B p 71 [.int .i64 s1, .int .i64 s2, u], .O 125 u raws1 g1, .R (fun b => F2 b ∧ b < w.heap.size) x6 rs, .I FI (SdA FI s1 raws s3), .B b0_0 27 [.bool x1, .int .i64 x2, .int .i64 x3, .int .i64 x4, .int .i64 x5, x6]]) ?_ ?_
                  · refine CW.seq (fun K49 h49 => ?_)
                    refine CW.region ?_
                    refine r_move rfl ?_
                    refine r_lss rfl rfl rfl ?_
                    refine LW.nil ?_
                    refine thenE_norm ?_
                    refine cut (K := K49) [0, 1, 2, 3, 9, 11, 72] (fun σ => ?_)
                    simp only [setL, keepE, upd_get, ev, Nat.reduceEqDiff, ↓reduceIte]
                    refine h49 _ _ ?_; clear h49; try clear K49
                    refine CW.condF rfl (by simp) ?_
                    refine CW.skip ?_
                    refine thenE_norm ?_
                    exact ⟨rfl, q, v, raws, g, r, t, s3, rfl, ⟨by omega, hr, hp, hset, hrba, .inr hlm, ⟨hk, by omega⟩, fun u h => by
                        obtain ⟨⟨pk, t'⟩, hp', hpr'⟩ := All2.get h hr
                        rw [hp] at hp'; cases hp'
                        exact hpr'.wh, fun K u h _ => h⟩, SH.sel H [0, 1, 2, 3, 4] (by decide) rfl⟩
                  try clear H
                  rintro vs wJ σ ⟨qq, u, raws1, g1, r1, t1, h1, rfl, ⟨hl1, hr1, hh1, hset, hba, hlk, ⟨hk, hnf⟩, hwho, hall⟩, H⟩
                  simp only [setL, keepE, upd_get, ev, Nat.reduceEqDiff, ↓reduceIte]
                  obtain ⟨a1, a2, a3, ⟨a4, a5, ⟨a6, a7⟩, a8, a9⟩, a10⟩ := r1
                  dsimp only at hba
                  have hql := lt_of_get hr1
                  have hro := (SH.rsO H (i := 1) rfl).2 _ (List.mem_of_getElem? hr1)
                  have hoa3 : oneC a3 = true := List.all_eq_true.1 hro a3 (by simp [Row.cells, Sd.L])
                  have hoa9 : oneC a9 = true := List.all_eq_true.1 hro a9 (by simp [Row.cells, Sd.L])
                  have hrel1 : ∀ (K : Nat → Prop) (u : World), SdA K s1 raws s3 u → Rs K u x6 rs → SdR K s1 u ⟨a1, a2, a3, ⟨a4, a5, ⟨a6, a7⟩, a8, a9⟩, a10⟩ (sl, t1) := fun K u h h6 => by
                    obtain ⟨y, hy, hyr⟩ := All2.get (hall K u h h6) hr1
                    rw [hh1] at hy; cases hy
                    exact hyr
                  refine CW.seq (fun K50 h50 => ?_)
                  refine CW.region ?_
                  refine r_move rfl ?_
                  refine r_nilCheck rfl rfl ?_
                  refine r_fieldAddrO rfl Try.underlying71 rfl Try.sizeOf69 (by decide) (show _ = 2 from rfl) rfl ?_
                  refine r_load rfl Try.isAgg69 rfl (by first | exact SH.cellB H (by (repeat first | exact At.here | apply At.there); done) (by rfl) | exact SH.cellI H (by (repeat first | exact At.here | apply At.there); done) (by rfl) | assumption) ?_
                  refine r_move rfl ?_
                  refine r_indexAddrV rfl Try.underlying69 (by simp only [upd_get, ev, Nat.reduceEqDiff, ↓reduceIte] <;> rfl) rfl (by first | assumption | exact SH.rsR H (by (repeat first | exact At.here | apply At.there); done) | exact SH.rsO H (by (repeat first | exact At.here | apply At.there); done) | exact (Rs.nil : Rs Non _ _ _)) (by exact Try.sizeOf125) (by omega) (by omega) ?_
                  refine r_loadA rfl Try.isAgg125 Try.sizeOf125 rfl (by first | exact Rs.cells0 (by first | assumption | exact SH.rsR H (by (repeat first | exact At.here | apply At.there); done) | exact SH.rsO H (by (repeat first | exact At.here | apply At.there); done) | exact (Rs.nil : Rs Non _ _ _)) (by assumption)) (by rfl) ?_
                  refine s_alloc (cs := [.int .i64 0, .int .i64 0, .slice none 0 0, .bool false, .int .i64 0, .int .i64 0, .int .i64 0, .int .i64 0, .slice none 0 0, .bool false]) H rfl Try.zeroValue125 rfl ?_
                  clear H
                  intro b11_7 w11_7 H
                  try dsimp only [replC, List.cons_append, List.nil_append, List.append_nil, agg, cellsL, Value.cells, List.toList_toArray, List.set_cons_zero, List.set_cons_succ, spliceL, List.take_succ_cons, List.take_zero, List.drop_succ_cons, List.drop_zero, List.length_cons, List.length_nil, Nat.reduceAdd, Row.cells, Cm.L, Rq.L, Tp.L, Bat.L, Ty.L, Sd.L] at H
                  refine s_storeA H Try.sizeOf125 rfl (by simp only [upd_get, ev, Nat.reduceEqDiff, ↓reduceIte] <;> rfl) (by simp only [cellsL, agg, List.toList_toArray, Row.cells, Cm.L, Rq.L, Tp.L, Bat.L, Ty.L, Sd.L] <;> rfl) (by rfl) (by first | rfl | assumption | exact Rs.oneC (by first | assumption | exact SH.rsR H (by (repeat first | exact At.here | apply At.there); done) | exact SH.rsO H (by (repeat first | exact At.here | apply At.there); done) | exact (Rs.nil : Rs Non _ _ _)) | (simp only [List.all_cons, List.all_nil, Bool.and_true, Bool.and_eq_true, Row.cells, Cm.L, Rq.L, Tp.L, Bat.L, Ty.L, Sd.L]; (repeat' constructor) <;> first | rfl | assumption | exact Rs.oneC (by first | assumption | exact SH.rsR H (by (repeat first | exact At.here | apply At.there); done) | exact SH.rsO H (by (repeat first | exact At.here | apply At.there); done) | exact (Rs.nil : Rs Non _ _ _)))) (by (repeat first | exact At.here | apply At.there); done) (by first | (simp; done) | decide | (show _ ≤ _; decide)) ?_
                  clear H
                  intro w11_8 H
                  try dsimp only [replC, List.cons_append, List.nil_append, List.append_nil, agg, cellsL, Value.cells, List.toList_toArray, List.set_cons_zero, List.set_cons_succ, spliceL, List.take_succ_cons, List.take_zero, List.drop_succ_cons, List.drop_zero, List.length_cons, List.length_nil, Nat.reduceAdd, Row.cells, Cm.L, Rq.L, Tp.L, Bat.L, Ty.L, Sd.L] at H
                  refine LW.nil ?_
                  refine thenE_norm ?_
                  refine cut (K := K50) [0, 1, 2, 3, 9, 11, 12] (fun σ => ?_)
                  simp only [setL, keepE, upd_get, ev, Nat.reduceEqDiff, ↓reduceIte]
                  refine h50 _ _ ?_; clear h50; try clear K50
                  refine CW.seq (fun K51 h51 => ?_)
                  refine CW.seq (fun K52 h52 => ?_)
                  refine CW.region ?_
                  refine r_move rfl ?_
                  refine r_fieldAddrO rfl Try.underlying125 rfl Try.sizeOf3 (by decide) (show _ = 1 from rfl) rfl ?_
                  refine r_load rfl Try.isAgg3 rfl (by first | exact SH.cellB H (by (repeat first | exact At.here | apply At.there); done) (by rfl) | assumption) ?_
                  refine r_lss rfl rfl rfl ?_
                  refine LW.nil ?_
                  refine thenE_norm (h52 _ _ ?_); clear h52; try clear K52
                  refine CW.cond rfl (fun hc5 => ?_) (fun hc5 => ?_)
                  · try simp only [decide_eq_true_eq, decide_eq_false_iff_not, Bool.and_eq_true, Bool.or_eq_true, Bool.and_eq_false_iff, Bool.or_eq_false_iff, Bool.not_eq_true', Bool.not_eq_false', beq_iff_eq, bne_iff_ne, ne_eq, Decidable.not_not] at hc5
                    refine CW.seq (fun K53 h53 => ?_)
                    refine CW.region ?_
                    refine r_assign rfl ?_
                    refine LW.nil ?_
                    refine thenE_norm (h53 _ _ ?_); clear h53; try clear K53
                    refine CW.ret (thenE_ret (ret1 Try.results36 (by simp only [upd_get, ev, Nat.reduceEqDiff, ↓reduceIte]; rfl) ?_))
                    have hold : oldT (lookM s3 sl) b = true := by
                      rcases hlk with ⟨q1, q2⟩ | q
                      · rw [q2] at hba
                        have hba2 : a2 = b := hba
                        omega
                      · rw [q]; exact decide_eq_true (by omega)
                    rw [hear_old hgo hk hnf hold]
                    rcases hlk with ⟨q1, q2⟩ | q
                    · rw [q1] at hold; cases hold
                    · obtain ⟨FN', K⟩ := RLnA.mk2 (SH.sel (H.addO (α := Int) 3) [0, 1, 6] (by decide) rfl)
                      refine ⟨_, _, _, _, _, rfl, K, fun K u h _ h6 => ?_⟩
                      have h7 := hall K u h h6
                      have e9 : h1 = s3 := by
                        have h8 := hset t1
                        have h9 : ∀ {l : List (Int × Tm)}, lookM l sl = some t1 → setM l sl t1 = l := by
                          intro l
                          induction l with
                          | nil => intro q; cases q
                          | cons y l ih =>
                            intro q
                            rw [lookM] at q
                            rw [setM]
                            by_cases hy : y.1 = sl
                            · rw [if_pos hy] at q ⊢
                              cases q
                              rw [← hy]
                            · rw [if_neg hy] at q ⊢
                              rw [ih q]
                        rw [h9 q] at h8
                        rw [h8]
                        apply List.ext_getElem?
                        intro j
                        rw [List.getElem?_set]
                        by_cases hj : qq = j
                        · subst hj
                          rw [if_pos rfl, if_pos (lt_of_get hh1)]; exact hh1
                        · rw [if_neg hj]
                      rw [e9] at h7
                      exact h7
                  · try simp only [decide_eq_true_eq, decide_eq_false_iff_not, Bool.and_eq_true, Bool.or_eq_true, Bool.and_eq_false_iff, Bool.or_eq_false_iff, Bool.not_eq_true', Bool.not_eq_false', beq_iff_eq, bne_iff_ne, ne_eq, Decidable.not_not] at hc5
                    refine CW.skip ?_
                    refine thenE_norm (h51 _ _ ?_); clear h51; try clear K51
                    refine CW.seqJ [0, 1, 11, 12] [] (fun vs w' => ∃ (r2 : Sd), vs = [] ∧ ¬ oldT (lookM s3 sl) b = true ∧ (r2.slot = sl ∧ r2.ballot = (baseT (lookM s3 sl) b ⟨x1, x2, ⟨x3, x4⟩, x5, x6⟩ rs).ballot ∧ (∀ u, SdA FI s1 raws s3 u → Rs FI u r2.who (baseT (lookM s3 sl) b ⟨x1, x2, ⟨x3, x4⟩, x5, x6⟩ rs).frm) ∧
  (∀ (K : Nat → Prop) (u : World) (vw : Value) (ws : List Int), SdA K s1 raws s3 u → Rs K u vw ws → Rs K u x6 rs → SdR K s1 u ⟨r2.slot, r2.ballot, vw, r2.batch, decide (s1 / 2 + 1 ≤ (ws.length : Int))⟩ (sl, ⟨(baseT (lookM s3 sl) b ⟨x1, x2, ⟨x3, x4⟩, x5, x6⟩ rs).ballot, (baseT (lookM s3 sl) b ⟨x1, x2, ⟨x3, x4⟩, x5, x6⟩ rs).fill, (baseT (lookM s3 sl) b ⟨x1, x2, ⟨x3, x4⟩, x5, x6⟩ rs).view, (baseT (lookM s3 sl) b ⟨x1, x2, ⟨x3, x4⟩, x5, x6⟩ rs).tip, (baseT (lookM s3 sl) b ⟨x1, x2, ⟨x3, x4⟩, x5, x6⟩ rs).time, (baseT (lookM s3 sl) b ⟨x1, x2, ⟨x3, x4⟩, x5, x6⟩ rs).rs, ws⟩)) ∧ oneC r2.who = true ∧ oneC r2.batch.reqs = true) ∧
  SH FR Any w w' [.B p 71 [.int .i64 s1, .int .i64 s2, u], .O 125 u raws1 g1, .R (fun b => F2 b ∧ b < w.heap.size) x6 rs, .I FI (SdA FI s1 raws s3), .B b0_0 27 [.bool x1, .int .i64 x2, .int .i64 x3, .int .i64 x4, .int .i64 x5, x6],
    .B b11_7 125 [.int .i64 r2.slot, .int .i64 r2.ballot, r2.who, .bool r2.batch.fill, .int .i64 r2.batch.view, .int .i64 r2.batch.tip.view, .int .i64 r2.batch.tip.slot, .int .i64 r2.batch.time, r2.batch.reqs, .bool r2.chosen]]) ?_ ?_
                    · refine CW.seq (fun K55 h55 => ?_)
                      have hnold : ¬ oldT (lookM s3 sl) b = true := by
                        rcases hlk with ⟨q1, q2⟩ | q
                        · rw [q1]; exact Bool.false_ne_true
                        · rw [q]
                          intro h
                          have := of_decide_eq_true h
                          omega
                      refine CW.region ?_
                      refine r_move rfl ?_
                      refine r_fieldAddrO rfl Try.underlying125 rfl Try.sizeOf3 (by decide) (show _ = 1 from rfl) rfl ?_
                      refine r_load rfl Try.isAgg3 rfl (by first | exact SH.cellB H (by (repeat first | exact At.here | apply At.there); done) (by rfl) | assumption) ?_
                      refine r_gtr rfl rfl rfl ?_
                      refine LW.nil ?_
                      refine thenE_norm ?_
                      refine cut (K := K55) [0, 1, 2, 3, 9, 11, 12, 106] (fun σ => ?_)
                      simp only [setL, keepE, upd_get, ev, Nat.reduceEqDiff, ↓reduceIte]
                      refine h55 _ _ ?_; clear h55; try clear K55
                      refine CW.cond rfl (fun hc6 => ?_) (fun hc6 => ?_)
                      · try simp only [decide_eq_true_eq, decide_eq_false_iff_not, Bool.and_eq_true, Bool.or_eq_true, Bool.and_eq_false_iff, Bool.or_eq_false_iff, Bool.not_eq_true', Bool.not_eq_false', beq_iff_eq, bne_iff_ne, ne_eq, Decidable.not_not] at hc6
                        refine CW.region ?_
                        refine r_move rfl ?_
                        refine r_move rfl ?_
                        refine r_loadA rfl Try.isAgg27 Try.sizeOf27 rfl (by first | exact SH.cells H (by (repeat first | exact At.here | apply At.there); done)) (by rfl) ?_
                        refine r_buildQ rfl Try.underlying125 Try.zeroValue125 rfl (pl := [(0, 1), (1, 1), (2, 1), (3, 6), (9, 1)]) (by intro w; simp [go_sem]) (qs := [(0, [_]), (1, [_]), (3, [_, _, _, _, _, _])]) (cs := [_, _, .slice none 0 0, _, _, _, _, _, _, .bool false]) ⟨rfl, cells_one (by simp only [upd_get, ev, Nat.reduceEqDiff, ↓reduceIte] <;> rfl) (by first | rfl | exact Rs.oneC (by first | assumption | exact SH.rsR H (by (repeat first | exact At.here | apply At.there); done) | exact SH.rsO H (by (repeat first | exact At.here | apply At.there); done) | exact (Rs.nil : Rs Non _ _ _))), rfl, cells_one (by simp only [upd_get, ev, Nat.reduceEqDiff, ↓reduceIte] <;> rfl) (by first | rfl | exact Rs.oneC (by first | assumption | exact SH.rsR H (by (repeat first | exact At.here | apply At.there); done) | exact SH.rsO H (by (repeat first | exact At.here | apply At.there); done) | exact (Rs.nil : Rs Non _ _ _))), rfl, (by simp only [upd_get, ev, Nat.reduceEqDiff, ↓reduceIte, cellsL, agg, List.toList_toArray, Row.cells, Cm.L, Rq.L, Tp.L, Bat.L, Ty.L, Sd.L] <;> rfl), trivial⟩ rfl ?_
                        refine s_storeA H Try.sizeOf125 rfl (by simp only [upd_get, ev, Nat.reduceEqDiff, ↓reduceIte] <;> rfl) (by simp only [cellsL, agg, List.toList_toArray, Row.cells, Cm.L, Rq.L, Tp.L, Bat.L, Ty.L, Sd.L] <;> rfl) (by rfl) (by first | rfl | assumption | exact Rs.oneC (by first | assumption | exact SH.rsR H (by (repeat first | exact At.here | apply At.there); done) | exact SH.rsO H (by (repeat first | exact At.here | apply At.there); done) | exact (Rs.nil : Rs Non _ _ _)) | (simp only [List.all_cons, List.all_nil, Bool.and_true, Bool.and_eq_true, Row.cells, Cm.L, Rq.L, Tp.L, Bat.L, Ty.L, Sd.L]; (repeat' constructor) <;> first | rfl | assumption | exact Rs.oneC (by first | assumption | exact SH.rsR H (by (repeat first | exact At.here | apply At.there); done) | exact SH.rsO H (by (repeat first | exact At.here | apply At.there); done) | exact (Rs.nil : Rs Non _ _ _)))) (by (repeat first | exact At.here | apply At.there); done) (by first | (simp; done) | decide | (show _ ≤ _; decide)) ?_
                        clear H
                        intro w15_4 H
                        try dsimp only [replC, List.cons_append, List.nil_append, List.append_nil, agg, cellsL, Value.cells, List.toList_toArray, List.set_cons_zero, List.set_cons_succ, spliceL, List.take_succ_cons, List.take_zero, List.drop_succ_cons, List.drop_zero, List.length_cons, List.length_nil, Nat.reduceAdd, Row.cells, Cm.L, Rq.L, Tp.L, Bat.L, Ty.L, Sd.L] at H
                        refine LW.nil ?_
                        refine thenE_norm ?_
                        have hbase : baseT (lookM s3 sl) b ⟨x1, x2, ⟨x3, x4⟩, x5, x6⟩ rs = tyNew b ⟨x1, x2, ⟨x3, x4⟩, x5, x6⟩ rs := by
                          rcases hlk with ⟨q1, q2⟩ | q
                          · rw [q1]; rfl
                          · rw [q, baseT, if_pos (by omega)]
                        exact ⟨rfl, ⟨sl, b, .slice none 0 0, ⟨x1, x2, ⟨x3, x4⟩, x5, x6⟩, false⟩, rfl, hnold, ⟨rfl, by rw [hbase]; rfl, fun u _ => by rw [hbase]; exact Rs.nil, fun K u vw ws _ hw h6 => by rw [hbase]; exact ⟨rfl, rfl, rfl, rfl, rfl, rfl, rfl, h6, hw⟩, rfl, ho6⟩, SH.sel H [0, 1, 2, 3, 4, 5] (by decide) rfl⟩
                      · try simp only [decide_eq_true_eq, decide_eq_false_iff_not, Bool.and_eq_true, Bool.or_eq_true, Bool.and_eq_false_iff, Bool.or_eq_false_iff, Bool.not_eq_true', Bool.not_eq_false', beq_iff_eq, bne_iff_ne, ne_eq, Decidable.not_not] at hc6
                        refine CW.skip ?_
                        refine thenE_norm ?_
                        have hbase : baseT (lookM s3 sl) b ⟨x1, x2, ⟨x3, x4⟩, x5, x6⟩ rs = t1 := by
                          rcases hlk with ⟨q1, q2⟩ | q
                          · rw [q1]; exact q2.symm
                          · rw [q, baseT, if_neg (by omega)]
                        have hsl1 : a1 = sl := by
                          have h6 : Rs (fun b => FI b ∨ F2 b) w x6 rs := hb.mono fun _ _ q => .inr q
                          exact (hrel1 _ w (SdA.mono hm fun _ q => .inl q) h6).sl
                        exact ⟨rfl, ⟨a1, a2, a3, ⟨a4, a5, ⟨a6, a7⟩, a8, a9⟩, a10⟩, rfl, hnold, ⟨hsl1, by rw [hbase]; exact hba, fun u h => by rw [hbase]; exact hwho u h, fun K u vw ws h hw h6 => by
                          rw [hbase]
                          have h9 := hrel1 K u h h6
                          exact ⟨h9.sl, h9.ba, rfl, h9.fi, h9.vi, h9.ti, h9.tm, h9.rq, hw⟩, hoa3, hoa9⟩, SH.sel H [0, 1, 2, 3, 4, 5] (by decide) rfl⟩
                    try clear H
                    rintro vs wJ σ ⟨⟨d1, d2, d3, ⟨d4, d5, ⟨d6, d7⟩, d8, d9⟩, d10⟩, rfl, hnold, ⟨hs2, hb2, hwho2, hrel2, hod3, hod9⟩, H⟩
                    simp only [setL, keepE, upd_get, ev, Nat.reduceEqDiff, ↓reduceIte]
                    dsimp only at hs2 hb2 hwho2 hod3 hod9 H
                    generalize hT2 : baseT (lookM s3 sl) b ⟨x1, x2, ⟨x3, x4⟩, x5, x6⟩ rs = T2 at *
                    have hip := fun j => ins2P_len (k := idK) (m := i) (l := T2.frm) j
                    clear hrel1 hwho
                    refine CW.seq (fun K56 h56 => ?_)
                    refine CW.region ?_
                    refine r_assign rfl ?_
                    refine LW.nil ?_
                    refine thenE_norm (h56 _ _ ?_); clear h56; try clear K56
                    refine CW.seq (fun K57 h57 => ?_)
                    refine CW.region ?_
                    refine r_assign rfl ?_
                    refine LW.nil ?_
                    refine thenE_norm (h57 _ _ ?_); clear h57; try clear K57
                    refine CW.seq (fun K58 h58 => ?_)
                    refine CW.seq (fun K59 h59 => ?_)
                    refine CW.region ?_
                    refine r_assign rfl ?_
                    refine LW.nil ?_
                    refine thenE_norm (h59 _ _ ?_); clear h59; try clear K59
                    refine CW.block ?_
                    refine CW.loopR [0, 1, 11, 12] [13, 14, 15] (fun m vs w' => ∃ (k : Nat) (e : Value) (ge : Option Nat), vs = [e, .bool (ins2P idK i T2.frm k).1, .int .i64 k] ∧ k ≤ T2.frm.length ∧ m = T2.frm.length - k ∧
  SH FR Any w w' [.B p 71 [.int .i64 s1, .int .i64 s2, u], .O 125 u raws1 g1, .I FI (SdA FI s1 raws s3), .B b11_7 125 [.int .i64 d1, .int .i64 d2, d3, .bool d4, .int .i64 d5, .int .i64 d6, .int .i64 d7, .int .i64 d8, d9, .bool d10], .O 3 e (ins2P idK i T2.frm k).2 ge]) (T2.frm.length) ?_ ?_
                    · exact ⟨0, .slice none 0 0, none, rfl, by omega, by omega, SH.sel (H.addO (α := Int) 3) [0, 1, 3, 5, 6] (by decide) rfl⟩
                    try clear H
                    rintro n1 vs1 wL1 σ ⟨k, e, ge, rfl, hk1, rfl, H⟩
                    simp only [setL, keepE, upd_get, ev, Nat.reduceEqDiff, ↓reduceIte]
                    refine CW.seq (fun K60 h60 => ?_)
                    refine CW.seq (fun K61 h61 => ?_)
                    refine CW.region ?_
                    refine r_move rfl ?_
                    refine r_fieldAddrO rfl Try.underlying125 rfl Try.sizeOf41 (by decide) (show _ = 2 from rfl) rfl ?_
                    refine r_load rfl Try.isAgg41 rfl (by first | exact SH.cellB H (by (repeat first | exact At.here | apply At.there); done) (by rfl) | assumption) ?_
                    first
                      | refine r_lenV rfl Try.underlying41 (by simp only [upd_get, ev, Nat.reduceEqDiff, ↓reduceIte] <;> rfl) (hwho2 _ (SH.propI H (i := 2) rfl)) ?_
                      | refine r_len rfl Try.underlying41 rfl ?_
                    refine r_lss rfl rfl rfl ?_
                    refine LW.nil ?_
                    refine thenE_norm (h61 _ _ ?_); clear h61; try clear K61
                    refine CW.cond rfl (fun hc7 => ?_) (fun hc7 => ?_)
                    · try simp only [decide_eq_true_eq, decide_eq_false_iff_not, Bool.and_eq_true, Bool.or_eq_true, Bool.and_eq_false_iff, Bool.or_eq_false_iff, Bool.not_eq_true', Bool.not_eq_false', beq_iff_eq, bne_iff_ne, ne_eq, Decidable.not_not] at hc7
                      refine CW.skip ?_
                      refine thenE_norm (h60 _ _ ?_); clear h60; try clear K60
                      refine CW.seq (fun K62 h62 => ?_)
                      refine CW.block ?_
                      refine CW.seq (fun K63 h63 => ?_)
                      refine CW.seq (fun K64 h64 => ?_)
                      obtain ⟨y, hy⟩ := get_of_lt (show k < T2.frm.length by omega)
                      have hs := ins2P_succ (k := idK) (m := i) hy
                      have hl := hip k
                      generalize ins2P idK i T2.frm k = S at *
                      obtain ⟨sb, su⟩ := S
                      dsimp only at hs hl H ⊢
                      refine CW.region ?_
                      refine r_move rfl ?_
                      refine r_not rfl rfl ?_
                      refine r_move rfl ?_
                      refine LW.splitB (t := 120) rfl (fun hg21_3 => ?_) (fun hg21_3 => ?_)
                      · have hg21_3P := hg21_3
                        try simp only [decide_eq_true_eq, decide_eq_false_iff_not, Bool.and_eq_true, Bool.or_eq_true, Bool.and_eq_false_iff, Bool.or_eq_false_iff, Bool.not_eq_true', Bool.not_eq_false', beq_iff_eq, bne_iff_ne] at hg21_3P
                        refine LW.want rfl rfl hg21_3 ?_
                        refine r_fieldAddrO rfl Try.underlying125 rfl Try.sizeOf41 (by decide) (show _ = 2 from rfl) rfl ?_
                        refine LW.want rfl rfl hg21_3 ?_
                        refine r_load rfl Try.isAgg41 rfl (by first | exact SH.cellB H (by (repeat first | exact At.here | apply At.there); done) (by rfl) | assumption) ?_
                        refine LW.want rfl rfl hg21_3 ?_
                        refine r_move rfl ?_
                        refine LW.want rfl rfl hg21_3 ?_
                        refine r_indexAddrV rfl Try.underlying41 (by simp only [upd_get, ev, Nat.reduceEqDiff, ↓reduceIte] <;> rfl) rfl (hwho2 _ (SH.propI H (i := 2) rfl)) (by exact Try.sizeOf3) (by omega) (by omega) ?_
                        refine LW.want rfl rfl hg21_3 ?_
                        refine r_load rfl Try.isAgg3 rfl (Rs.cell0 (hwho2 _ (SH.propI H (i := 2) rfl)) hy rfl) ?_
                        refine LW.want rfl rfl hg21_3 ?_
                        refine r_move rfl ?_
                        refine LW.want rfl rfl hg21_3 ?_
                        refine r_geq rfl rfl rfl ?_
                        refine r_pickT rfl rfl hg21_3 ?_
                        refine LW.nil ?_
                        refine thenE_norm ?_
                        refine cut (K := K64) [0, 1, 11, 12, 13, 14, 15, 128] (fun σ => ?_)
                        simp only [setL, keepE, upd_get, ev, Nat.reduceEqDiff, ↓reduceIte]
                        refine h64 _ _ ?_; clear h64; try clear K64
                        refine CW.cond rfl (fun hc8 => ?_) (fun hc8 => ?_)
                        · try simp only [decide_eq_true_eq, decide_eq_false_iff_not, Bool.and_eq_true, Bool.or_eq_true, Bool.and_eq_false_iff, Bool.or_eq_false_iff, Bool.not_eq_true', Bool.not_eq_false', beq_iff_eq, bne_iff_ne, ne_eq, Decidable.not_not] at hc8
                          refine CW.seq (fun K65 h65 => ?_)
                          refine CW.region ?_
                          refine r_move rfl ?_
                          refine r_move rfl ?_
                          refine r_buildSlice rfl Try.underlying41 Try.sizeOf3 Try.zeroValue3 rfl rfl rfl (by simp only [List.map_cons, List.map_nil, List.toList_toArray, List.foldl_cons, List.foldl_nil, List.replicate_succ, List.replicate_zero, List.set_cons_zero, List.set_cons_succ, upd_get, ev, Nat.reduceEqDiff, ↓reduceIte] <;> rfl) ?_
                          intro b22_2 w22_2 hb22_2 hs22_2 hE22_2 hB22_2
                          replace H := SH.call H (SH.fromB hE22_2 hb22_2 hs22_2 hB22_2)
                          clear hb22_2 hs22_2 hE22_2 hB22_2
                          try dsimp only [replC, List.cons_append, List.nil_append, List.append_nil, agg, cellsL, Value.cells, List.toList_toArray, List.set_cons_zero, List.set_cons_succ, spliceL, List.take_succ_cons, List.take_zero, List.drop_succ_cons, List.drop_zero, List.length_cons, List.length_nil, Nat.reduceAdd, Row.cells, Cm.L, Rq.L, Tp.L, Bat.L, Ty.L, Sd.L] at H
                          replace H := SH.row (b := b22_2) (xs := ([i] : List Int)) (n := 1) (cap := 1) H (by (repeat first | exact At.here | apply At.there); done) (by rfl) (by intro x hx; first | rfl | (simp at hx; done) | (simp only [List.mem_cons, List.not_mem_nil, or_false] at hx; rcases hx with rfl <;> first | rfl | exact (by first | rfl | assumption | exact Rs.oneC (by first | assumption | exact SH.rsR H (by (repeat first | exact At.here | apply At.there); done) | exact SH.rsO H (by (repeat first | exact At.here | apply At.there); done) | exact (Rs.nil : Rs Non _ _ _)) | (simp only [List.all_cons, List.all_nil, Bool.and_true, Bool.and_eq_true, Row.cells, Cm.L, Rq.L, Tp.L, Bat.L, Ty.L, Sd.L]; (repeat' constructor) <;> first | rfl | assumption | exact Rs.oneC (by first | assumption | exact SH.rsR H (by (repeat first | exact At.here | apply At.there); done) | exact SH.rsO H (by (repeat first | exact At.here | apply At.there); done) | exact (Rs.nil : Rs Non _ _ _)))))) (by rfl) rfl (by decide)
                          try dsimp only [replC, List.cons_append, List.nil_append, List.append_nil, agg, cellsL, Value.cells, List.toList_toArray, List.set_cons_zero, List.set_cons_succ, spliceL, List.take_succ_cons, List.take_zero, List.drop_succ_cons, List.drop_zero, List.length_cons, List.length_nil, Nat.reduceAdd, Row.cells, Cm.L, Rq.L, Tp.L, Bat.L, Ty.L, Sd.L] at H
                          refine s_append H rfl Try.underlying41 Try.underlying41 Try.type3 rfl (by simp only [upd_get, ev, Nat.reduceEqDiff, ↓reduceIte] <;> rfl) (by simp only [upd_get, ev, Nat.reduceEqDiff, ↓reduceIte] <;> rfl) (by (repeat first | exact At.here | apply At.there); done) (by first | assumption | exact SH.rsR H (by (repeat first | exact At.here | apply At.there); done) | exact SH.rsO H (by (repeat first | exact At.here | apply At.there); done) | exact (Rs.nil : Rs Non _ _ _)) (by rfl) (by rfl) (by first | omega | (simp only [Try.t3, List.length_append, List.length_cons, List.length_nil, List.length_map, maxLen]; omega) | (simp [Try.t3, maxLen]; omega)) (by first | omega | (simp only [Try.t3, List.length_append, List.length_cons, List.length_nil, List.length_map, maxLen]; omega) | (simp [Try.t3, maxLen]; omega)) ?_
                          clear H
                          intro v22_3 w22_3 g22_3 H hN22_3
                          try dsimp only [replC, List.cons_append, List.nil_append, List.append_nil] at H
                          refine r_assign rfl ?_
                          refine LW.nil ?_
                          refine thenE_norm (h65 _ _ ?_); clear h65; try clear K65
                          refine CW.region ?_
                          refine r_assign rfl ?_
                          refine LW.nil ?_
                          refine thenE_norm (h63 _ _ ?_); clear h63; try clear K63
                          refine CW.seq (fun K66 h66 => ?_)
                          refine CW.region ?_
                          refine r_fieldAddrO rfl Try.underlying125 rfl Try.sizeOf41 (by decide) (show _ = 2 from rfl) rfl ?_
                          refine r_load rfl Try.isAgg41 rfl (by first | exact SH.cellB H (by (repeat first | exact At.here | apply At.there); done) (by rfl) | assumption) ?_
                          refine r_move rfl ?_
                          refine r_indexAddrV rfl Try.underlying41 (by simp only [upd_get, ev, Nat.reduceEqDiff, ↓reduceIte] <;> rfl) rfl (hwho2 _ (SH.propI H (i := 2) rfl)) (by exact Try.sizeOf3) (by omega) (by omega) ?_
                          refine r_load rfl Try.isAgg3 rfl (Rs.cell0 (hwho2 _ (SH.propI H (i := 2) rfl)) hy rfl) ?_
                          refine r_move rfl ?_
                          refine r_neq rfl rfl rfl ?_
                          refine LW.nil ?_
                          refine thenE_norm ?_
                          refine cut (K := K66) [0, 1, 11, 12, 13, 14, 15, 139] (fun σ => ?_)
                          simp only [setL, keepE, upd_get, ev, Nat.reduceEqDiff, ↓reduceIte]
                          refine h66 _ _ ?_; clear h66; try clear K66
                          refine CW.cond rfl (fun hc9 => ?_) (fun hc9 => ?_)
                          · try simp only [decide_eq_true_eq, decide_eq_false_iff_not, Bool.and_eq_true, Bool.or_eq_true, Bool.and_eq_false_iff, Bool.or_eq_false_iff, Bool.not_eq_true', Bool.not_eq_false', beq_iff_eq, bne_iff_ne, ne_eq, Decidable.not_not] at hc9
                            refine CW.region ?_
                            refine r_move rfl ?_
                            refine r_fieldAddrO rfl Try.underlying125 rfl Try.sizeOf41 (by decide) (show _ = 2 from rfl) rfl ?_
                            refine r_load rfl Try.isAgg41 rfl (by first | exact SH.cellB H (by (repeat first | exact At.here | apply At.there); done) (by rfl) | assumption) ?_
                            refine r_move rfl ?_
                            refine r_indexAddrV rfl Try.underlying41 (by simp only [upd_get, ev, Nat.reduceEqDiff, ↓reduceIte] <;> rfl) rfl (hwho2 _ (SH.propI H (i := 2) rfl)) (by exact Try.sizeOf3) (by omega) (by omega) ?_
                            refine r_load rfl Try.isAgg3 rfl (Rs.cell0 (hwho2 _ (SH.propI H (i := 2) rfl)) hy rfl) ?_
                            refine r_buildSlice rfl Try.underlying41 Try.sizeOf3 Try.zeroValue3 rfl rfl rfl (by simp only [List.map_cons, List.map_nil, List.toList_toArray, List.foldl_cons, List.foldl_nil, List.replicate_succ, List.replicate_zero, List.set_cons_zero, List.set_cons_succ, upd_get, ev, Nat.reduceEqDiff, ↓reduceIte] <;> rfl) ?_
                            intro b25_6 w25_6 hb25_6 hs25_6 hE25_6 hB25_6
                            replace H := SH.call H (SH.fromB hE25_6 hb25_6 hs25_6 hB25_6)
                            clear hb25_6 hs25_6 hE25_6 hB25_6
                            try dsimp only [replC, List.cons_append, List.nil_append, List.append_nil, agg, cellsL, Value.cells, List.toList_toArray, List.set_cons_zero, List.set_cons_succ, spliceL, List.take_succ_cons, List.take_zero, List.drop_succ_cons, List.drop_zero, List.length_cons, List.length_nil, Nat.reduceAdd, Row.cells, Cm.L, Rq.L, Tp.L, Bat.L, Ty.L, Sd.L] at H
                            replace H := SH.row (b := b25_6) (xs := ([y] : List Int)) (n := 1) (cap := 1) H (by (repeat first | exact At.here | apply At.there); done) (by rfl) (by intro x hx; first | rfl | (simp at hx; done) | (simp only [List.mem_cons, List.not_mem_nil, or_false] at hx; rcases hx with rfl <;> first | rfl | exact (by first | rfl | assumption | exact Rs.oneC (by first | assumption | exact SH.rsR H (by (repeat first | exact At.here | apply At.there); done) | exact SH.rsO H (by (repeat first | exact At.here | apply At.there); done) | exact (Rs.nil : Rs Non _ _ _)) | (simp only [List.all_cons, List.all_nil, Bool.and_true, Bool.and_eq_true, Row.cells, Cm.L, Rq.L, Tp.L, Bat.L, Ty.L, Sd.L]; (repeat' constructor) <;> first | rfl | assumption | exact Rs.oneC (by first | assumption | exact SH.rsR H (by (repeat first | exact At.here | apply At.there); done) | exact SH.rsO H (by (repeat first | exact At.here | apply At.there); done) | exact (Rs.nil : Rs Non _ _ _)))))) (by rfl) rfl (by decide)
                            try dsimp only [replC, List.cons_append, List.nil_append, List.append_nil, agg, cellsL, Value.cells, List.toList_toArray, List.set_cons_zero, List.set_cons_succ, spliceL, List.take_succ_cons, List.take_zero, List.drop_succ_cons, List.drop_zero, List.length_cons, List.length_nil, Nat.reduceAdd, Row.cells, Cm.L, Rq.L, Tp.L, Bat.L, Ty.L, Sd.L] at H
                            refine s_append H rfl Try.underlying41 Try.underlying41 Try.type3 rfl (by simp only [upd_get, ev, Nat.reduceEqDiff, ↓reduceIte] <;> rfl) (by simp only [upd_get, ev, Nat.reduceEqDiff, ↓reduceIte] <;> rfl) (by (repeat first | exact At.here | apply At.there); done) (by first | assumption | exact SH.rsR H (by (repeat first | exact At.here | apply At.there); done) | exact SH.rsO H (by (repeat first | exact At.here | apply At.there); done) | exact (Rs.nil : Rs Non _ _ _)) (by rfl) (by rfl) (by first | omega | (simp only [Try.t3, List.length_append, List.length_cons, List.length_nil, List.length_map, maxLen]; omega) | (simp [Try.t3, maxLen]; omega)) (by first | omega | (simp only [Try.t3, List.length_append, List.length_cons, List.length_nil, List.length_map, maxLen]; omega) | (simp [Try.t3, maxLen]; omega)) ?_
                            clear H
                            intro v25_7 w25_7 g25_7 H hN25_7
                            try dsimp only [replC, List.cons_append, List.nil_append, List.append_nil] at H
                            refine r_assign rfl ?_
                            refine LW.nil ?_
                            refine blockE_norm ?_
                            refine thenE_norm (h62 _ _ ?_); clear h62; try clear K62
                            refine CW.region ?_
                            refine r_move rfl ?_
                            refine r_add rfl rfl rfl (wr_i64 (by omega) (by omega)) ?_
                            refine r_assign rfl ?_
                            refine LW.nil ?_
                            refine thenE_norm ⟨rfl, ?_⟩
                            have e1 : ins2S idK i (sb, su) y = if y ≠ i then (true, su ++ [i] ++ [y]) else (true, su ++ [i]) := by
                              rw [ins2S, if_pos (show sb = false ∧ idK i ≤ idK y from ⟨by first | exact hg21_3P | simpa using hg21_3P, show i ≤ y by omega⟩)]
                              rfl
                            rw [e1] at hs
                            first
                              | (rw [if_pos (show y ≠ i by first | assumption | omega)] at hs
                                 exact ⟨T2.frm.length - (k + 1), by omega, k + 1, v25_7, g25_7, by rw [hs]; rfl, by omega, rfl, by rw [hs]; exact SH.sel H [0, 1, 2, 3, 4] (by decide) rfl⟩)
                              | (rw [if_neg (show ¬ y ≠ i by first | assumption | omega)] at hs
                                 exact ⟨T2.frm.length - (k + 1), by omega, k + 1, v22_3, g22_3, by rw [hs]; rfl, by omega, rfl, by rw [hs]; exact SH.sel H [0, 1, 2, 3, 4] (by decide) rfl⟩)
                          · try simp only [decide_eq_true_eq, decide_eq_false_iff_not, Bool.and_eq_true, Bool.or_eq_true, Bool.and_eq_false_iff, Bool.or_eq_false_iff, Bool.not_eq_true', Bool.not_eq_false', beq_iff_eq, bne_iff_ne, ne_eq, Decidable.not_not] at hc9
                            refine CW.skip ?_
                            refine blockE_norm ?_
                            refine thenE_norm (h62 _ _ ?_); clear h62; try clear K62
                            refine CW.region ?_
                            refine r_move rfl ?_
                            refine r_add rfl rfl rfl (wr_i64 (by omega) (by omega)) ?_
                            refine r_assign rfl ?_
                            refine LW.nil ?_
                            refine thenE_norm ⟨rfl, ?_⟩
                            have e1 : ins2S idK i (sb, su) y = if y ≠ i then (true, su ++ [i] ++ [y]) else (true, su ++ [i]) := by
                              rw [ins2S, if_pos (show sb = false ∧ idK i ≤ idK y from ⟨by first | exact hg21_3P | simpa using hg21_3P, show i ≤ y by omega⟩)]
                              rfl
                            rw [e1] at hs
                            first
                              | (rw [if_pos (show y ≠ i by first | assumption | omega)] at hs
                                 exact ⟨T2.frm.length - (k + 1), by omega, k + 1, v25_7, g25_7, by rw [hs]; rfl, by omega, rfl, by rw [hs]; exact SH.sel H [0, 1, 2, 3, 4] (by decide) rfl⟩)
                              | (rw [if_neg (show ¬ y ≠ i by first | assumption | omega)] at hs
                                 exact ⟨T2.frm.length - (k + 1), by omega, k + 1, v22_3, g22_3, by rw [hs]; rfl, by omega, rfl, by rw [hs]; exact SH.sel H [0, 1, 2, 3, 4] (by decide) rfl⟩)
                        · try simp only [decide_eq_true_eq, decide_eq_false_iff_not, Bool.and_eq_true, Bool.or_eq_true, Bool.and_eq_false_iff, Bool.or_eq_false_iff, Bool.not_eq_true', Bool.not_eq_false', beq_iff_eq, bne_iff_ne, ne_eq, Decidable.not_not] at hc8
                          refine CW.skip ?_
                          refine thenE_norm (h63 _ _ ?_); clear h63; try clear K63
                          refine CW.seq (fun K67 h67 => ?_)
                          refine CW.region ?_
                          refine r_fieldAddrO rfl Try.underlying125 rfl Try.sizeOf41 (by decide) (show _ = 2 from rfl) rfl ?_
                          refine r_load rfl Try.isAgg41 rfl (by first | exact SH.cellB H (by (repeat first | exact At.here | apply At.there); done) (by rfl) | assumption) ?_
                          refine r_move rfl ?_
                          refine r_indexAddrV rfl Try.underlying41 (by simp only [upd_get, ev, Nat.reduceEqDiff, ↓reduceIte] <;> rfl) rfl (hwho2 _ (SH.propI H (i := 2) rfl)) (by exact Try.sizeOf3) (by omega) (by omega) ?_
                          refine r_load rfl Try.isAgg3 rfl (Rs.cell0 (hwho2 _ (SH.propI H (i := 2) rfl)) hy rfl) ?_
                          refine r_move rfl ?_
                          refine r_neq rfl rfl rfl ?_
                          refine LW.nil ?_
                          refine thenE_norm (h67 _ _ ?_); clear h67; try clear K67
                          refine CW.cond rfl (fun hc9 => ?_) (fun hc9 => ?_)
                          · try simp only [decide_eq_true_eq, decide_eq_false_iff_not, Bool.and_eq_true, Bool.or_eq_true, Bool.and_eq_false_iff, Bool.or_eq_false_iff, Bool.not_eq_true', Bool.not_eq_false', beq_iff_eq, bne_iff_ne, ne_eq, Decidable.not_not] at hc9
                            refine CW.region ?_
                            refine r_move rfl ?_
                            refine r_fieldAddrO rfl Try.underlying125 rfl Try.sizeOf41 (by decide) (show _ = 2 from rfl) rfl ?_
                            refine r_load rfl Try.isAgg41 rfl (by first | exact SH.cellB H (by (repeat first | exact At.here | apply At.there); done) (by rfl) | assumption) ?_
                            refine r_move rfl ?_
                            refine r_indexAddrV rfl Try.underlying41 (by simp only [upd_get, ev, Nat.reduceEqDiff, ↓reduceIte] <;> rfl) rfl (hwho2 _ (SH.propI H (i := 2) rfl)) (by exact Try.sizeOf3) (by omega) (by omega) ?_
                            refine r_load rfl Try.isAgg3 rfl (Rs.cell0 (hwho2 _ (SH.propI H (i := 2) rfl)) hy rfl) ?_
                            refine r_buildSlice rfl Try.underlying41 Try.sizeOf3 Try.zeroValue3 rfl rfl rfl (by simp only [List.map_cons, List.map_nil, List.toList_toArray, List.foldl_cons, List.foldl_nil, List.replicate_succ, List.replicate_zero, List.set_cons_zero, List.set_cons_succ, upd_get, ev, Nat.reduceEqDiff, ↓reduceIte] <;> rfl) ?_
                            intro b25_6 w25_6 hb25_6 hs25_6 hE25_6 hB25_6
                            replace H := SH.call H (SH.fromB hE25_6 hb25_6 hs25_6 hB25_6)
                            clear hb25_6 hs25_6 hE25_6 hB25_6
                            try dsimp only [replC, List.cons_append, List.nil_append, List.append_nil, agg, cellsL, Value.cells, List.toList_toArray, List.set_cons_zero, List.set_cons_succ, spliceL, List.take_succ_cons, List.take_zero, List.drop_succ_cons, List.drop_zero, List.length_cons, List.length_nil, Nat.reduceAdd, Row.cells, Cm.L, Rq.L, Tp.L, Bat.L, Ty.L, Sd.L] at H
                            replace H := SH.row (b := b25_6) (xs := ([y] : List Int)) (n := 1) (cap := 1) H (by (repeat first | exact At.here | apply At.there); done) (by rfl) (by intro x hx; first | rfl | (simp at hx; done) | (simp only [List.mem_cons, List.not_mem_nil, or_false] at hx; rcases hx with rfl <;> first | rfl | exact (by first | rfl | assumption | exact Rs.oneC (by first | assumption | exact SH.rsR H (by (repeat first | exact At.here | apply At.there); done) | exact SH.rsO H (by (repeat first | exact At.here | apply At.there); done) | exact (Rs.nil : Rs Non _ _ _)) | (simp only [List.all_cons, List.all_nil, Bool.and_true, Bool.and_eq_true, Row.cells, Cm.L, Rq.L, Tp.L, Bat.L, Ty.L, Sd.L]; (repeat' constructor) <;> first | rfl | assumption | exact Rs.oneC (by first | assumption | exact SH.rsR H (by (repeat first | exact At.here | apply At.there); done) | exact SH.rsO H (by (repeat first | exact At.here | apply At.there); done) | exact (Rs.nil : Rs Non _ _ _)))))) (by rfl) rfl (by decide)
                            try dsimp only [replC, List.cons_append, List.nil_append, List.append_nil, agg, cellsL, Value.cells, List.toList_toArray, List.set_cons_zero, List.set_cons_succ, spliceL, List.take_succ_cons, List.take_zero, List.drop_succ_cons, List.drop_zero, List.length_cons, List.length_nil, Nat.reduceAdd, Row.cells, Cm.L, Rq.L, Tp.L, Bat.L, Ty.L, Sd.L] at H
                            refine s_append H rfl Try.underlying41 Try.underlying41 Try.type3 rfl (by simp only [upd_get, ev, Nat.reduceEqDiff, ↓reduceIte] <;> rfl) (by simp only [upd_get, ev, Nat.reduceEqDiff, ↓reduceIte] <;> rfl) (by (repeat first | exact At.here | apply At.there); done) (by first | assumption | exact SH.rsR H (by (repeat first | exact At.here | apply At.there); done) | exact SH.rsO H (by (repeat first | exact At.here | apply At.there); done) | exact (Rs.nil : Rs Non _ _ _)) (by rfl) (by rfl) (by first | omega | (simp only [Try.t3, List.length_append, List.length_cons, List.length_nil, List.length_map, maxLen]; omega) | (simp [Try.t3, maxLen]; omega)) (by first | omega | (simp only [Try.t3, List.length_append, List.length_cons, List.length_nil, List.length_map, maxLen]; omega) | (simp [Try.t3, maxLen]; omega)) ?_
                            clear H
                            intro v25_7 w25_7 g25_7 H hN25_7
                            try dsimp only [replC, List.cons_append, List.nil_append, List.append_nil] at H
                            refine r_assign rfl ?_
                            refine LW.nil ?_
                            refine blockE_norm ?_
                            refine thenE_norm (h62 _ _ ?_); clear h62; try clear K62
                            refine CW.region ?_
                            refine r_move rfl ?_
                            refine r_add rfl rfl rfl (wr_i64 (by omega) (by omega)) ?_
                            refine r_assign rfl ?_
                            refine LW.nil ?_
                            refine thenE_norm ⟨rfl, ?_⟩
                            have e1 : ins2S idK i (sb, su) y = if y ≠ i then (sb, su ++ [y]) else (sb, su) := by
                              rw [ins2S, if_neg (show ¬ (sb = false ∧ idK i ≤ idK y) from fun q => by
                                have q2 : i ≤ y := q.2
                                first
                                  | exact Bool.noConfusion (q.1.symm.trans (by first | exact hg21_3P | simpa using hg21_3P))
                                  | omega)]
                              rfl
                            rw [e1] at hs
                            first
                              | (rw [if_pos (show y ≠ i by first | assumption | omega)] at hs
                                 exact ⟨T2.frm.length - (k + 1), by omega, k + 1, v25_7, g25_7, by rw [hs]; rfl, by omega, rfl, by rw [hs]; exact SH.sel H [0, 1, 2, 3, 4] (by decide) rfl⟩)
                              | (rw [if_neg (show ¬ y ≠ i by first | assumption | omega)] at hs
                                 exact ⟨T2.frm.length - (k + 1), by omega, k + 1, e, ge, by rw [hs]; rfl, by omega, rfl, by rw [hs]; exact SH.sel H [0, 1, 2, 3, 4] (by decide) rfl⟩)
                          · try simp only [decide_eq_true_eq, decide_eq_false_iff_not, Bool.and_eq_true, Bool.or_eq_true, Bool.and_eq_false_iff, Bool.or_eq_false_iff, Bool.not_eq_true', Bool.not_eq_false', beq_iff_eq, bne_iff_ne, ne_eq, Decidable.not_not] at hc9
                            refine CW.skip ?_
                            refine blockE_norm ?_
                            refine thenE_norm (h62 _ _ ?_); clear h62; try clear K62
                            refine CW.region ?_
                            refine r_move rfl ?_
                            refine r_add rfl rfl rfl (wr_i64 (by omega) (by omega)) ?_
                            refine r_assign rfl ?_
                            refine LW.nil ?_
                            refine thenE_norm ⟨rfl, ?_⟩
                            have e1 : ins2S idK i (sb, su) y = if y ≠ i then (sb, su ++ [y]) else (sb, su) := by
                              rw [ins2S, if_neg (show ¬ (sb = false ∧ idK i ≤ idK y) from fun q => by
                                have q2 : i ≤ y := q.2
                                first
                                  | exact Bool.noConfusion (q.1.symm.trans (by first | exact hg21_3P | simpa using hg21_3P))
                                  | omega)]
                              rfl
                            rw [e1] at hs
                            first
                              | (rw [if_pos (show y ≠ i by first | assumption | omega)] at hs
                                 exact ⟨T2.frm.length - (k + 1), by omega, k + 1, v25_7, g25_7, by rw [hs]; rfl, by omega, rfl, by rw [hs]; exact SH.sel H [0, 1, 2, 3, 4] (by decide) rfl⟩)
                              | (rw [if_neg (show ¬ y ≠ i by first | assumption | omega)] at hs
                                 exact ⟨T2.frm.length - (k + 1), by omega, k + 1, e, ge, by rw [hs]; rfl, by omega, rfl, by rw [hs]; exact SH.sel H [0, 1, 2, 3, 4] (by decide) rfl⟩)
                      · have hg21_3P := hg21_3
                        try simp only [decide_eq_true_eq, decide_eq_false_iff_not, Bool.and_eq_true, Bool.or_eq_true, Bool.and_eq_false_iff, Bool.or_eq_false_iff, Bool.not_eq_true', Bool.not_eq_false', beq_iff_eq, bne_iff_ne] at hg21_3P
                        refine LW.skip rfl (fun _ e => by cases e; decide) rfl hg21_3 ?_
                        refine LW.skip rfl (fun _ e => by cases e; decide) rfl hg21_3 ?_
                        refine LW.skip rfl (fun _ e => by cases e; decide) rfl hg21_3 ?_
                        refine LW.skip rfl (fun _ e => by cases e; decide) rfl hg21_3 ?_
                        refine LW.skip rfl (fun _ e => by cases e; decide) rfl hg21_3 ?_
                        refine LW.skip rfl (fun _ e => by cases e; decide) rfl hg21_3 ?_
                        refine LW.skip rfl (fun _ e => by cases e; decide) rfl hg21_3 ?_
                        refine r_pickF rfl rfl hg21_3 ?_
                        refine LW.nil ?_
                        refine thenE_norm ?_
                        refine cut (K := K64) [0, 1, 11, 12, 13, 14, 15, 128] (fun σ => ?_)
                        simp only [setL, keepE, upd_get, ev, Nat.reduceEqDiff, ↓reduceIte]
                        refine h64 _ _ ?_; clear h64; try clear K64
                        refine CW.condF rfl (by first | rfl | (simp only [decide_eq_true_eq, decide_eq_false_iff_not, Bool.and_eq_true, Bool.or_eq_true, Bool.and_eq_false_iff, Bool.or_eq_false_iff, Bool.not_eq_true', Bool.not_eq_false', beq_iff_eq, bne_iff_ne]; omega) | simp_all) ?_
                        refine CW.skip ?_
                        refine thenE_norm (h63 _ _ ?_); clear h63; try clear K63
                        refine CW.seq (fun K68 h68 => ?_)
                        refine CW.region ?_
                        refine r_fieldAddrO rfl Try.underlying125 rfl Try.sizeOf41 (by decide) (show _ = 2 from rfl) rfl ?_
                        refine r_load rfl Try.isAgg41 rfl (by first | exact SH.cellB H (by (repeat first | exact At.here | apply At.there); done) (by rfl) | assumption) ?_
                        refine r_move rfl ?_
                        refine r_indexAddrV rfl Try.underlying41 (by simp only [upd_get, ev, Nat.reduceEqDiff, ↓reduceIte] <;> rfl) rfl (hwho2 _ (SH.propI H (i := 2) rfl)) (by exact Try.sizeOf3) (by omega) (by omega) ?_
                        refine r_load rfl Try.isAgg3 rfl (Rs.cell0 (hwho2 _ (SH.propI H (i := 2) rfl)) hy rfl) ?_
                        refine r_move rfl ?_
                        refine r_neq rfl rfl rfl ?_
                        refine LW.nil ?_
                        refine thenE_norm (h68 _ _ ?_); clear h68; try clear K68
                        refine CW.cond rfl (fun hc9 => ?_) (fun hc9 => ?_)
                        · try simp only [decide_eq_true_eq, decide_eq_false_iff_not, Bool.and_eq_true, Bool.or_eq_true, Bool.and_eq_false_iff, Bool.or_eq_false_iff, Bool.not_eq_true', Bool.not_eq_false', beq_iff_eq, bne_iff_ne, ne_eq, Decidable.not_not] at hc9
                          refine CW.region ?_
                          refine r_move rfl ?_
                          refine r_fieldAddrO rfl Try.underlying125 rfl Try.sizeOf41 (by decide) (show _ = 2 from rfl) rfl ?_
                          refine r_load rfl Try.isAgg41 rfl (by first | exact SH.cellB H (by (repeat first | exact At.here | apply At.there); done) (by rfl) | assumption) ?_
                          refine r_move rfl ?_
                          refine r_indexAddrV rfl Try.underlying41 (by simp only [upd_get, ev, Nat.reduceEqDiff, ↓reduceIte] <;> rfl) rfl (hwho2 _ (SH.propI H (i := 2) rfl)) (by exact Try.sizeOf3) (by omega) (by omega) ?_
                          refine r_load rfl Try.isAgg3 rfl (Rs.cell0 (hwho2 _ (SH.propI H (i := 2) rfl)) hy rfl) ?_
                          refine r_buildSlice rfl Try.underlying41 Try.sizeOf3 Try.zeroValue3 rfl rfl rfl (by simp only [List.map_cons, List.map_nil, List.toList_toArray, List.foldl_cons, List.foldl_nil, List.replicate_succ, List.replicate_zero, List.set_cons_zero, List.set_cons_succ, upd_get, ev, Nat.reduceEqDiff, ↓reduceIte] <;> rfl) ?_
                          intro b25_6 w25_6 hb25_6 hs25_6 hE25_6 hB25_6
                          replace H := SH.call H (SH.fromB hE25_6 hb25_6 hs25_6 hB25_6)
                          clear hb25_6 hs25_6 hE25_6 hB25_6
                          try dsimp only [replC, List.cons_append, List.nil_append, List.append_nil, agg, cellsL, Value.cells, List.toList_toArray, List.set_cons_zero, List.set_cons_succ, spliceL, List.take_succ_cons, List.take_zero, List.drop_succ_cons, List.drop_zero, List.length_cons, List.length_nil, Nat.reduceAdd, Row.cells, Cm.L, Rq.L, Tp.L, Bat.L, Ty.L, Sd.L] at H
                          replace H := SH.row (b := b25_6) (xs := ([y] : List Int)) (n := 1) (cap := 1) H (by (repeat first | exact At.here | apply At.there); done) (by rfl) (by intro x hx; first | rfl | (simp at hx; done) | (simp only [List.mem_cons, List.not_mem_nil, or_false] at hx; rcases hx with rfl <;> first | rfl | exact (by first | rfl | assumption | exact Rs.oneC (by first | assumption | exact SH.rsR H (by (repeat first | exact At.here | apply At.there); done) | exact SH.rsO H (by (repeat first | exact At.here | apply At.there); done) | exact (Rs.nil : Rs Non _ _ _)) | (simp only [List.all_cons, List.all_nil, Bool.and_true, Bool.and_eq_true, Row.cells, Cm.L, Rq.L, Tp.L, Bat.L, Ty.L, Sd.L]; (repeat' constructor) <;> first | rfl | assumption | exact Rs.oneC (by first | assumption | exact SH.rsR H (by (repeat first | exact At.here | apply At.there); done) | exact SH.rsO H (by (repeat first | exact At.here | apply At.there); done) | exact (Rs.nil : Rs Non _ _ _)))))) (by rfl) rfl (by decide)
                          try dsimp only [replC, List.cons_append, List.nil_append, List.append_nil, agg, cellsL, Value.cells, List.toList_toArray, List.set_cons_zero, List.set_cons_succ, spliceL, List.take_succ_cons, List.take_zero, List.drop_succ_cons, List.drop_zero, List.length_cons, List.length_nil, Nat.reduceAdd, Row.cells, Cm.L, Rq.L, Tp.L, Bat.L, Ty.L, Sd.L] at H
                          refine s_append H rfl Try.underlying41 Try.underlying41 Try.type3 rfl (by simp only [upd_get, ev, Nat.reduceEqDiff, ↓reduceIte] <;> rfl) (by simp only [upd_get, ev, Nat.reduceEqDiff, ↓reduceIte] <;> rfl) (by (repeat first | exact At.here | apply At.there); done) (by first | assumption | exact SH.rsR H (by (repeat first | exact At.here | apply At.there); done) | exact SH.rsO H (by (repeat first | exact At.here | apply At.there); done) | exact (Rs.nil : Rs Non _ _ _)) (by rfl) (by rfl) (by first | omega | (simp only [Try.t3, List.length_append, List.length_cons, List.length_nil, List.length_map, maxLen]; omega) | (simp [Try.t3, maxLen]; omega)) (by first | omega | (simp only [Try.t3, List.length_append, List.length_cons, List.length_nil, List.length_map, maxLen]; omega) | (simp [Try.t3, maxLen]; omega)) ?_
                          clear H
                          intro v25_7 w25_7 g25_7 H hN25_7
                          try dsimp only [replC, List.cons_append, List.nil_append, List.append_nil] at H
                          refine r_assign rfl ?_
                          refine LW.nil ?_
                          refine blockE_norm ?_
                          refine thenE_norm (h62 _ _ ?_); clear h62; try clear K62
                          refine CW.region ?_
                          refine r_move rfl ?_
                          refine r_add rfl rfl rfl (wr_i64 (by omega) (by omega)) ?_
                          refine r_assign rfl ?_
                          refine LW.nil ?_
                          refine thenE_norm ⟨rfl, ?_⟩
                          have e1 : ins2S idK i (sb, su) y = if y ≠ i then (sb, su ++ [y]) else (sb, su) := by
                            rw [ins2S, if_neg (show ¬ (sb = false ∧ idK i ≤ idK y) from fun q => by
                              have q2 : i ≤ y := q.2
                              first
                                | exact Bool.noConfusion (q.1.symm.trans (by first | exact hg21_3P | simpa using hg21_3P))
                                | omega)]
                            rfl
                          rw [e1] at hs
                          first
                            | (rw [if_pos (show y ≠ i by first | assumption | omega)] at hs
                               exact ⟨T2.frm.length - (k + 1), by omega, k + 1, v25_7, g25_7, by rw [hs]; rfl, by omega, rfl, by rw [hs]; exact SH.sel H [0, 1, 2, 3, 4] (by decide) rfl⟩)
                            | (rw [if_neg (show ¬ y ≠ i by first | assumption | omega)] at hs
                               exact ⟨T2.frm.length - (k + 1), by omega, k + 1, e, ge, by rw [hs]; rfl, by omega, rfl, by rw [hs]; exact SH.sel H [0, 1, 2, 3, 4] (by decide) rfl⟩)
                        · try simp only [decide_eq_true_eq, decide_eq_false_iff_not, Bool.and_eq_true, Bool.or_eq_true, Bool.and_eq_false_iff, Bool.or_eq_false_iff, Bool.not_eq_true', Bool.not_eq_false', beq_iff_eq, bne_iff_ne, ne_eq, Decidable.not_not] at hc9
                          refine CW.skip ?_
                          refine blockE_norm ?_
                          refine thenE_norm (h62 _ _ ?_); clear h62; try clear K62
                          refine CW.region ?_
                          refine r_move rfl ?_
                          refine r_add rfl rfl rfl (wr_i64 (by omega) (by omega)) ?_
                          refine r_assign rfl ?_
                          refine LW.nil ?_
                          refine thenE_norm ⟨rfl, ?_⟩
                          have e1 : ins2S idK i (sb, su) y = if y ≠ i then (sb, su ++ [y]) else (sb, su) := by
                            rw [ins2S, if_neg (show ¬ (sb = false ∧ idK i ≤ idK y) from fun q => by
                              have q2 : i ≤ y := q.2
                              first
                                | exact Bool.noConfusion (q.1.symm.trans (by first | exact hg21_3P | simpa using hg21_3P))
                                | omega)]
                            rfl
                          rw [e1] at hs
                          first
                            | (rw [if_pos (show y ≠ i by first | assumption | omega)] at hs
                               exact ⟨T2.frm.length - (k + 1), by omega, k + 1, v25_7, g25_7, by rw [hs]; rfl, by omega, rfl, by rw [hs]; exact SH.sel H [0, 1, 2, 3, 4] (by decide) rfl⟩)
                            | (rw [if_neg (show ¬ y ≠ i by first | assumption | omega)] at hs
                               exact ⟨T2.frm.length - (k + 1), by omega, k + 1, e, ge, by rw [hs]; rfl, by omega, rfl, by rw [hs]; exact SH.sel H [0, 1, 2, 3, 4] (by decide) rfl⟩)
                    · try simp only [decide_eq_true_eq, decide_eq_false_iff_not, Bool.and_eq_true, Bool.or_eq_true, Bool.and_eq_false_iff, Bool.or_eq_false_iff, Bool.not_eq_true', Bool.not_eq_false', beq_iff_eq, bne_iff_ne, ne_eq, Decidable.not_not] at hc7
                      refine CW.exit (thenE_exit (thenE_exit (blockE_hit ?_)))
                      refine thenE_norm (h58 _ _ ?_); clear h58; try clear K58
                      refine CW.seqJ [0, 11, 12] [13] (fun vs w' => ∃ (e : Value) (ge : Option Nat), vs = [e] ∧ SH FR Any w w' [.B p 71 [.int .i64 s1, .int .i64 s2, u], .O 125 u raws1 g1, .I FI (SdA FI s1 raws s3), .B b11_7 125 [.int .i64 d1, .int .i64 d2, d3, .bool d4, .int .i64 d5, .int .i64 d6, .int .i64 d7, .int .i64 d8, d9, .bool d10], .O 3 e (putK idK T2.frm i) ge]) ?_ ?_
                      · refine CW.seq (fun K70 h70 => ?_)
                        obtain rfl : k = T2.frm.length := by omega
                        have hend := ins2P_end (m := i) hup
                        have hl := hip T2.frm.length
                        generalize ins2P idK i T2.frm T2.frm.length = S at *
                        obtain ⟨sb, su⟩ := S
                        dsimp only at hend hl H ⊢
                        refine CW.region ?_
                        refine r_move rfl ?_
                        refine r_not rfl rfl ?_
                        refine LW.nil ?_
                        refine thenE_norm (h70 _ _ ?_); clear h70; try clear K70
                        refine CW.cond rfl (fun hc10 => ?_) (fun hc10 => ?_)
                        · try simp only [decide_eq_true_eq, decide_eq_false_iff_not, Bool.and_eq_true, Bool.or_eq_true, Bool.and_eq_false_iff, Bool.or_eq_false_iff, Bool.not_eq_true', Bool.not_eq_false', beq_iff_eq, bne_iff_ne, ne_eq, Decidable.not_not] at hc10
                          refine CW.region ?_
                          refine r_move rfl ?_
                          refine r_move rfl ?_
                          refine r_buildSlice rfl Try.underlying41 Try.sizeOf3 Try.zeroValue3 rfl rfl rfl (by simp only [List.map_cons, List.map_nil, List.toList_toArray, List.foldl_cons, List.foldl_nil, List.replicate_succ, List.replicate_zero, List.set_cons_zero, List.set_cons_succ, upd_get, ev, Nat.reduceEqDiff, ↓reduceIte] <;> rfl) ?_
                          intro b27_2 w27_2 hb27_2 hs27_2 hE27_2 hB27_2
                          replace H := SH.call H (SH.fromB hE27_2 hb27_2 hs27_2 hB27_2)
                          clear hb27_2 hs27_2 hE27_2 hB27_2
                          try dsimp only [replC, List.cons_append, List.nil_append, List.append_nil, agg, cellsL, Value.cells, List.toList_toArray, List.set_cons_zero, List.set_cons_succ, spliceL, List.take_succ_cons, List.take_zero, List.drop_succ_cons, List.drop_zero, List.length_cons, List.length_nil, Nat.reduceAdd, Row.cells, Cm.L, Rq.L, Tp.L, Bat.L, Ty.L, Sd.L] at H
                          replace H := SH.row (b := b27_2) (xs := ([i] : List Int)) (n := 1) (cap := 1) H (by (repeat first | exact At.here | apply At.there); done) (by rfl) (by intro x hx; first | rfl | (simp at hx; done) | (simp only [List.mem_cons, List.not_mem_nil, or_false] at hx; rcases hx with rfl <;> first | rfl | exact (by first | rfl | assumption | exact Rs.oneC (by first | assumption | exact SH.rsR H (by (repeat first | exact At.here | apply At.there); done) | exact SH.rsO H (by (repeat first | exact At.here | apply At.there); done) | exact (Rs.nil : Rs Non _ _ _)) | (simp only [List.all_cons, List.all_nil, Bool.and_true, Bool.and_eq_true, Row.cells, Cm.L, Rq.L, Tp.L, Bat.L, Ty.L, Sd.L]; (repeat' constructor) <;> first | rfl | assumption | exact Rs.oneC (by first | assumption | exact SH.rsR H (by (repeat first | exact At.here | apply At.there); done) | exact SH.rsO H (by (repeat first | exact At.here | apply At.there); done) | exact (Rs.nil : Rs Non _ _ _)))))) (by rfl) rfl (by decide)
                          try dsimp only [replC, List.cons_append, List.nil_append, List.append_nil, agg, cellsL, Value.cells, List.toList_toArray, List.set_cons_zero, List.set_cons_succ, spliceL, List.take_succ_cons, List.take_zero, List.drop_succ_cons, List.drop_zero, List.length_cons, List.length_nil, Nat.reduceAdd, Row.cells, Cm.L, Rq.L, Tp.L, Bat.L, Ty.L, Sd.L] at H
                          first
                            | refine s_append H rfl Try.underlying41 Try.underlying41 Try.type3 rfl (by simp only [upd_get, ev, Nat.reduceEqDiff, ↓reduceIte] <;> rfl) (by simp only [upd_get, ev, Nat.reduceEqDiff, ↓reduceIte] <;> rfl) (by (repeat first | exact At.here | apply At.there); done) (by first | assumption | exact SH.rsR H (by (repeat first | exact At.here | apply At.there); done) | exact SH.rsO H (by (repeat first | exact At.here | apply At.there); done) | exact (Rs.nil : Rs Non _ _ _)) (by rfl) (by rfl) (by first | omega | (simp only [Try.t3, List.length_append, List.length_cons, List.length_nil, List.length_map, maxLen]; omega) | (simp [Try.t3, maxLen]; omega)) (by first | omega | (simp only [Try.t3, List.length_append, List.length_cons, List.length_nil, List.length_map, maxLen]; omega) | (simp [Try.t3, maxLen]; omega)) ?_
                            | refine s_appendNil H rfl Try.underlying41 Try.underlying41 Try.type3 rfl rfl (by simp only [upd_get, ev, Nat.reduceEqDiff, ↓reduceIte] <;> rfl) (by first | assumption | exact SH.rsR H (by (repeat first | exact At.here | apply At.there); done) | exact SH.rsO H (by (repeat first | exact At.here | apply At.there); done) | exact (Rs.nil : Rs Non _ _ _)) (by rfl) (by rfl) (by first | omega | (simp only [Try.t3, List.length_append, List.length_cons, List.length_nil, List.length_map, maxLen]; omega) | (simp [Try.t3, maxLen]; omega)) ?_
                          clear H
                          intro v27_3 w27_3 g27_3 H hN27_3
                          try dsimp only [replC, List.cons_append, List.nil_append, List.append_nil] at H
                          refine r_assign rfl ?_
                          refine LW.nil ?_
                          refine thenE_norm ?_
                          exact ⟨rfl, v27_3, g27_3, rfl, by rw [← hend, if_neg (by rw [show sb = false by simpa using hc10]; exact Bool.false_ne_true)]; exact SH.sel H [0, 1, 2, 3, 4] (by decide) rfl⟩
                        · try simp only [decide_eq_true_eq, decide_eq_false_iff_not, Bool.and_eq_true, Bool.or_eq_true, Bool.and_eq_false_iff, Bool.or_eq_false_iff, Bool.not_eq_true', Bool.not_eq_false', beq_iff_eq, bne_iff_ne, ne_eq, Decidable.not_not] at hc10
                          refine CW.skip ?_
                          refine thenE_norm ?_
                          exact ⟨rfl, e, ge, rfl, by rw [← hend, if_pos (show sb = true by simpa using hc10)]; exact SH.sel H [0, 1, 2, 3, 4] (by decide) rfl⟩
                      try clear H
                      rintro vs wJ σ ⟨e, ge, rfl, H⟩
                      simp only [setL, keepE, upd_get, ev, Nat.reduceEqDiff, ↓reduceIte]
                      have hpl := putK_len (k := idK) (l := T2.frm) (m := i)
                      have hoe : oneC e = true := Rs.oneC (SH.rsO H (i := 4) rfl)
                      refine CW.seq (fun K71 h71 => ?_)
                      refine CW.region ?_
                      refine r_move rfl ?_
                      refine r_fieldAddrO rfl Try.underlying125 rfl Try.sizeOf41 (by decide) (show _ = 2 from rfl) rfl ?_
                      refine s_store H Try.sizeOf41 rfl (by simp only [upd_get, ev, Nat.reduceEqDiff, ↓reduceIte] <;> rfl) (by first | rfl | assumption | exact Rs.oneC (by first | assumption | exact SH.rsR H (by (repeat first | exact At.here | apply At.there); done) | exact SH.rsO H (by (repeat first | exact At.here | apply At.there); done) | exact (Rs.nil : Rs Non _ _ _)) | (simp only [List.all_cons, List.all_nil, Bool.and_true, Bool.and_eq_true, Row.cells, Cm.L, Rq.L, Tp.L, Bat.L, Ty.L, Sd.L]; (repeat' constructor) <;> first | rfl | assumption | exact Rs.oneC (by first | assumption | exact SH.rsR H (by (repeat first | exact At.here | apply At.there); done) | exact SH.rsO H (by (repeat first | exact At.here | apply At.there); done) | exact (Rs.nil : Rs Non _ _ _)))) (by (repeat first | exact At.here | apply At.there); done) (by first | (simp; done) | decide | omega) ?_
                      clear H
                      intro w28_2 H
                      try dsimp only [replC, List.cons_append, List.nil_append, List.append_nil, agg, cellsL, Value.cells, List.toList_toArray, List.set_cons_zero, List.set_cons_succ, spliceL, List.take_succ_cons, List.take_zero, List.drop_succ_cons, List.drop_zero, List.length_cons, List.length_nil, Nat.reduceAdd, Row.cells, Cm.L, Rq.L, Tp.L, Bat.L, Ty.L, Sd.L] at H
                      refine LW.nil ?_
                      refine thenE_norm ?_
                      refine cut (K := K71) [0, 11, 12, 13] (fun σ => ?_)
                      simp only [setL, keepE, upd_get, ev, Nat.reduceEqDiff, ↓reduceIte]
                      refine h71 _ _ ?_; clear h71; try clear K71
                      refine CW.seq (fun K72 h72 => ?_)
                      refine CW.region ?_
                      refine r_move rfl ?_
                      first
                        | refine r_lenV rfl Try.underlying41 (by simp only [upd_get, ev, Nat.reduceEqDiff, ↓reduceIte] <;> rfl) (by first | assumption | exact SH.rsR H (by (repeat first | exact At.here | apply At.there); done) | exact SH.rsO H (by (repeat first | exact At.here | apply At.there); done) | exact (Rs.nil : Rs Non _ _ _)) ?_
                        | refine r_len rfl Try.underlying41 rfl ?_
                      refine r_move rfl ?_
                      refine r_nilCheck rfl rfl ?_
                      refine r_fieldAddrO rfl Try.underlying71 rfl Try.sizeOf3 (by decide) (show _ = 0 from rfl) rfl ?_
                      refine r_load rfl Try.isAgg3 rfl (by first | exact SH.cellB H (by (repeat first | exact At.here | apply At.there); done) (by rfl) | exact SH.cellI H (by (repeat first | exact At.here | apply At.there); done) (by rfl) | assumption) ?_
                      refine r_call rfl Try.call81 (by simp only [List.map_cons, List.map_nil, List.map_toArray, List.toList_toArray, upd_get, ev, Nat.reduceEqDiff, ↓reduceIte] <;> rfl) (QuorumR_c _ _ ⟨hn0, hn1⟩) ?_
                      rintro _ _ ⟨rfl, rfl⟩
                      refine ⟨_, rfl, ?_⟩
                      refine r_geq rfl rfl rfl ?_
                      refine r_fieldAddrO rfl Try.underlying125 rfl Try.sizeOf4 (by decide) (show _ = 9 from rfl) rfl ?_
                      refine s_store H Try.sizeOf4 rfl (by simp only [upd_get, ev, Nat.reduceEqDiff, ↓reduceIte] <;> rfl) (by first | rfl | assumption | exact Rs.oneC (by first | assumption | exact SH.rsR H (by (repeat first | exact At.here | apply At.there); done) | exact SH.rsO H (by (repeat first | exact At.here | apply At.there); done) | exact (Rs.nil : Rs Non _ _ _)) | (simp only [List.all_cons, List.all_nil, Bool.and_true, Bool.and_eq_true, Row.cells, Cm.L, Rq.L, Tp.L, Bat.L, Ty.L, Sd.L]; (repeat' constructor) <;> first | rfl | assumption | exact Rs.oneC (by first | assumption | exact SH.rsR H (by (repeat first | exact At.here | apply At.there); done) | exact SH.rsO H (by (repeat first | exact At.here | apply At.there); done) | exact (Rs.nil : Rs Non _ _ _)))) (by (repeat first | exact At.here | apply At.there); done) (by first | (simp; done) | decide | omega) ?_
                      clear H
                      intro w29_9 H
                      try dsimp only [replC, List.cons_append, List.nil_append, List.append_nil, agg, cellsL, Value.cells, List.toList_toArray, List.set_cons_zero, List.set_cons_succ, spliceL, List.take_succ_cons, List.take_zero, List.drop_succ_cons, List.drop_zero, List.length_cons, List.length_nil, Nat.reduceAdd, Row.cells, Cm.L, Rq.L, Tp.L, Bat.L, Ty.L, Sd.L] at H
                      refine LW.nil ?_
                      refine thenE_norm ?_
                      refine cut (K := K72) [0, 11, 12] (fun σ => ?_)
                      simp only [setL, keepE, upd_get, ev, Nat.reduceEqDiff, ↓reduceIte]
                      refine h72 _ _ ?_; clear h72; try clear K72
                      refine CW.seq (fun K73 h73 => ?_)
                      have hrow := SH.rsO H (i := 1) rfl
                      refine CW.drawP [0, 3] [] H (by dsimp only [pickC, nthC] <;> rfl) (by repeat first | exact List.Sublist.refl _ | exact List.nil_sublist _ | apply List.Sublist.cons_cons | apply List.Sublist.cons) (by kernel_rfl) rfl ?_
                      clear H
                      intro w30d H
                      refine DL.take (i := 0) [] rfl (by kernel_rfl) (by kernel_rfl) (by kernel_rfl) (by kernel_rfl) rfl rfl (fun u H => x_move ) (SH.sub H (by repeat first | exact List.Sublist.refl _ | exact List.nil_sublist _ | apply List.Sublist.cons_cons | apply List.Sublist.cons)) ?_
                      refine DL.take (i := 1) [] rfl (by kernel_rfl) (by kernel_rfl) (by kernel_rfl) (by kernel_rfl) rfl rfl (fun u H => x_nilCheck rfl) (SH.sub H (by repeat first | exact List.Sublist.refl _ | exact List.nil_sublist _ | apply List.Sublist.cons_cons | apply List.Sublist.cons)) ?_
                      refine DL.take (i := 2) [] rfl (by kernel_rfl) (by kernel_rfl) (by kernel_rfl) (by kernel_rfl) rfl rfl (fun u H => x_fieldAddrO Try.underlying71 rfl Try.sizeOf69 (by decide) (show _ = 2 from rfl) rfl) (SH.sub H (by repeat first | exact List.Sublist.refl _ | exact List.nil_sublist _ | apply List.Sublist.cons_cons | apply List.Sublist.cons)) ?_
                      refine DL.take (i := 3) [] rfl (by kernel_rfl) (by kernel_rfl) (by kernel_rfl) (by kernel_rfl) rfl rfl (fun u H => x_load Try.isAgg69 rfl (by first | exact SH.cellB H (by (repeat first | exact At.here | apply At.there); done) (by rfl) | exact SH.cellI H (by (repeat first | exact At.here | apply At.there); done) (by rfl) | assumption)) (SH.sub H (by repeat first | exact List.Sublist.refl _ | exact List.nil_sublist _ | apply List.Sublist.cons_cons | apply List.Sublist.cons)) ?_
                      refine DL.take (i := 4) [] rfl (by kernel_rfl) (by kernel_rfl) (by kernel_rfl) (by kernel_rfl) rfl rfl (fun u H => x_move ) (SH.sub H (by repeat first | exact List.Sublist.refl _ | exact List.nil_sublist _ | apply List.Sublist.cons_cons | apply List.Sublist.cons)) ?_
                      refine DL.take (i := 5) [] rfl (by kernel_rfl) (by kernel_rfl) (by kernel_rfl) (by kernel_rfl) rfl rfl (fun u H => x_loadA Try.isAgg125 Try.sizeOf125 rfl (by first | exact SH.cells H (by (repeat first | exact At.here | apply At.there); done)) (by rfl)) (SH.sub H (by repeat first | exact List.Sublist.refl _ | exact List.nil_sublist _ | apply List.Sublist.cons_cons | apply List.Sublist.cons)) ?_
                      refine DL.take (i := 6) [] rfl (by kernel_rfl) (by kernel_rfl) (by kernel_rfl) (by kernel_rfl) rfl rfl (fun u H => x_indexAddrW Try.underlying69 (by simp only [upd_get, ev, Nat.reduceEqDiff, ↓reduceIte] <;> rfl) rfl hrow (by exact Try.sizeOf125) (by omega) (by omega)) (SH.sub H (by repeat first | exact List.Sublist.refl _ | exact List.nil_sublist _ | apply List.Sublist.cons_cons | apply List.Sublist.cons)) ?_
                      refine DL.one (i := 7) (by kernel_rfl) rfl rfl ?_
                      refine s_storeRA (o := 0) (x1 := (⟨d1, d2, e, ⟨d4, d5, ⟨d6, d7⟩, d8, d9⟩, decide (s1 / 2 + 1 ≤ ((putK idK T2.frm i).length : Int))⟩ : Sd)) H Try.sizeOf125 rfl (by simp only [upd_get, ev, Nat.reduceEqDiff, ↓reduceIte] <;> rfl) (by simp only [cellsL, agg, List.toList_toArray, Row.cells, Cm.L, Rq.L, Tp.L, Bat.L, Ty.L, Sd.L] <;> rfl) (by rfl) (by first | rfl | assumption | exact Rs.oneC (by first | assumption | exact SH.rsR H (by (repeat first | exact At.here | apply At.there); done) | exact SH.rsO H (by (repeat first | exact At.here | apply At.there); done) | exact (Rs.nil : Rs Non _ _ _)) | (simp only [List.all_cons, List.all_nil, Bool.and_true, Bool.and_eq_true, Row.cells, Cm.L, Rq.L, Tp.L, Bat.L, Ty.L, Sd.L]; (repeat' constructor) <;> first | rfl | assumption | exact Rs.oneC (by first | assumption | exact SH.rsR H (by (repeat first | exact At.here | apply At.there); done) | exact SH.rsO H (by (repeat first | exact At.here | apply At.there); done) | exact (Rs.nil : Rs Non _ _ _)))) (by (repeat first | exact At.here | apply At.there); done) hr1 (by rfl) (by rfl) (by rfl) (by first | rfl | assumption | exact Rs.oneC (by first | assumption | exact SH.rsR H (by (repeat first | exact At.here | apply At.there); done) | exact SH.rsO H (by (repeat first | exact At.here | apply At.there); done) | exact (Rs.nil : Rs Non _ _ _)) | (simp only [List.all_cons, List.all_nil, Bool.and_true, Bool.and_eq_true, Row.cells, Cm.L, Rq.L, Tp.L, Bat.L, Ty.L, Sd.L]; (repeat' constructor) <;> first | rfl | assumption | exact Rs.oneC (by first | assumption | exact SH.rsR H (by (repeat first | exact At.here | apply At.there); done) | exact SH.rsO H (by (repeat first | exact At.here | apply At.there); done) | exact (Rs.nil : Rs Non _ _ _)))) ?_
                      clear H
                      intro w30_7 H
                      try dsimp only [replC, List.cons_append, List.nil_append, List.append_nil, agg, cellsL, Value.cells, List.toList_toArray, List.set_cons_zero, List.set_cons_succ, spliceL, List.take_succ_cons, List.take_zero, List.drop_succ_cons, List.drop_zero, List.length_cons, List.length_nil, Nat.reduceAdd, Row.cells, Cm.L, Rq.L, Tp.L, Bat.L, Ty.L, Sd.L] at H
                      refine LW.nil (thenE_norm ⟨fun _ => (SH.sub H (by repeat first | exact List.Sublist.refl _ | exact List.nil_sublist _ | apply List.Sublist.cons_cons | apply List.Sublist.cons)), ?_⟩)
                      refine DL.done (by kernel_rfl) ?_
                      refine thenE_norm ?_
                      refine cut (K := K73) [] (fun σ => ?_)
                      simp only [setL, keepE, upd_get, ev, Nat.reduceEqDiff, ↓reduceIte]
                      refine h73 _ _ ?_; clear h73; try clear K73
                      refine CW.seq (fun K74 h74 => ?_)
                      refine CW.region ?_
                      refine r_assign rfl ?_
                      refine LW.nil ?_
                      refine thenE_norm (h74 _ _ ?_); clear h74; try clear K74
                      refine CW.ret (ret1 Try.results36 (by simp only [upd_get, ev, Nat.reduceEqDiff, ↓reduceIte]; rfl) ?_)
                      rw [hear_put hgo hk hnf hnold]
                      dsimp only
                      rw [hT2]
                      obtain ⟨FN', K⟩ := RLnA.mk2 (SH.sel H [0, 1, 4] (by decide) rfl)
                      refine ⟨_, _, _, _, _, rfl, K, fun K u h hw h6 => ?_⟩
                      rw [hset]
                      exact All2.set qq (hall K u h h6) (hrel2 K u _ _ h hw h6)
end Go.Proofs.Ytalieccfdmokmaa
