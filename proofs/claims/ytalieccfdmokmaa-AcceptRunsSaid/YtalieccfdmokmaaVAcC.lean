/-
  The walks of layer 14's laws: the example; AcceptPromises.
-/
import Derived.Test.YtalieccfdmokmaaVAcB
import Derived.Test.YtalieccfdmokmaaVBnF
namespace Go.Proofs.Ytalieccfdmokmaa
set_option linter.unusedSimpArgs false
set_option linter.unusedVariables false
set_option maxRecDepth 20000
open Go.V Go.RowKit Go.ChangeShapes Go.WideShapes

theorem vmB_b (sl b : Int) (x : Bat) (rs : List Rq) : (vmB sl b x rs).ballot = b := rfl
theorem vmB_s (sl b : Int) (x : Bat) (rs : List Rq) : (vmB sl b x rs).slot = sl := rfl
def nilB : Bat := ⟨true, 0, ⟨0, 0⟩, 0, .slice none 0 0⟩
theorem acc0_1 : promM ⟨0, 0, []⟩ 3 = (⟨3, 0, []⟩, 0) := rfl
theorem acc0_2 : accM ⟨3, 0, []⟩ (vmB 1 2 nilB []) = (⟨3, 0, []⟩, 11) := rfl
theorem acc0_3 : accM ⟨3, 0, []⟩ (vmB 1 3 nilB []) = (⟨3, 0, [vmB 1 3 nilB []]⟩, 0) := rfl
set_option maxHeartbeats 4000000 in
theorem awake14_c (w : World) : Calls Try.prog 32 #[] w fun e w' => e = .returned (.bool true) ∧ Ext0 w w' := by
  have H := SH.start (U := Non) (G := Any) w
  refine calls_of_CW Try.func32 rfl Try.ntmps32 (Nat.le_of_ble_eq_true rfl) ?_
  simp only [argE, argFrom, Nat.reduceAdd]
  refine CW.seq (fun K1 h1 => ?_)
  refine CW.region ?_
  refine r_assign rfl ?_
  refine LW.nil ?_
  refine thenE_norm (h1 _ _ ?_); clear h1; try clear K1
  refine CW.seq (fun K2 h2 => ?_)
  refine CW.region ?_
  refine r_call rfl Try.call27 (by simp only [List.map_cons, List.map_nil, List.map_toArray, List.toList_toArray, upd_get, ev, Nat.reduceEqDiff, ↓reduceIte] <;> rfl) (AccNew_c _) ?_
  rintro _ w1_0 ⟨p, FN, rfl, K⟩
  refine ⟨_, rfl, ?_⟩
  replace H := SH.call H K
  clear K
  try dsimp only [replC, List.cons_append, List.nil_append, List.append_nil] at H
  refine r_assign rfl ?_
  refine LW.nil ?_
  refine thenE_norm (h2 _ _ ?_); clear h2; try clear K2
  refine CW.seq (fun K3 h3 => ?_)
  refine CW.seq (fun K4 h4 => ?_)
  refine CW.region ?_
  refine r_move rfl ?_
  refine r_eqlP rfl Try.underlying53 rfl rfl ?_
  refine LW.nil ?_
  refine thenE_norm (h4 _ _ ?_); clear h4; try clear K4
  refine CW.condF rfl (by first | rfl | (simp only [decide_eq_true_eq, decide_eq_false_iff_not, Bool.and_eq_true, Bool.or_eq_true, Bool.and_eq_false_iff, Bool.or_eq_false_iff, Bool.not_eq_true', Bool.not_eq_false', beq_iff_eq, bne_iff_ne]; omega) | simp_all) ?_
  refine CW.skip ?_
  refine thenE_norm (h3 _ _ ?_); clear h3; try clear K3
  refine CW.seq (fun K5 h5 => ?_)
  refine CW.region ?_
  refine r_move rfl ?_
  refine r_call rfl Try.call28 (by simp only [List.map_cons, List.map_nil, List.map_toArray, List.toList_toArray, upd_get, ev, Nat.reduceEqDiff, ↓reduceIte] <;> rfl) (Promise_c _ _ (SH.prop H (by (repeat first | exact At.here | apply At.there); done))) ?_
  rintro _ w4_1 ⟨FN4_1, rfl, K⟩
  refine ⟨_, rfl, ?_⟩
  replace H := SH.updP H (by (repeat first | exact At.here | apply At.there); done) K
  clear K
  try dsimp only [replC, List.cons_append, List.nil_append, List.append_nil] at H
  rw [acc0_1] at H ⊢
  dsimp only at H ⊢
  refine r_assign rfl ?_
  refine LW.nil ?_
  refine thenE_norm ?_
  refine cut (K := K5) [1, 2] (fun σ => ?_)
  simp only [setL, keepE, upd_get, ev, Nat.reduceEqDiff, ↓reduceIte]
  refine h5 _ _ ?_; clear h5; try clear K5
  refine CW.seq (fun K6 h6 => ?_)
  refine CW.region ?_
  refine r_move rfl ?_
  refine r_buildQ rfl Try.underlying27 Try.zeroValue27 rfl (pl := [(0, 1), (1, 1), (2, 2), (4, 1), (5, 1)]) (by intro w; simp [go_sem]) (qs := [(0, [_])]) (cs := [_, .int .i64 0, .int .i64 0, .int .i64 0, .int .i64 0, .slice none 0 0]) ⟨rfl, cells_one (by simp only [upd_get, ev, Nat.reduceEqDiff, ↓reduceIte] <;> rfl) (by first | rfl | exact Rs.oneC (by first | assumption | exact SH.rsR H (by (repeat first | exact At.here | apply At.there); done) | exact SH.rsO H (by (repeat first | exact At.here | apply At.there); done) | exact (Rs.nil : Rs Non _ _ _))), trivial⟩ rfl ?_
  refine r_call rfl Try.call29 (by simp only [List.map_cons, List.map_nil, List.map_toArray, List.toList_toArray, upd_get, ev, Nat.reduceEqDiff, ↓reduceIte] <;> rfl) (Accept_c 2 1 nilB (rs := []) _ (SH.prop H (i := 0) rfl) (Rs.nil : Rs Non _ _ _) (fun _ h => h.elim) nil_small) ?_
  rintro _ w5_2 ⟨FN5_2, rfl, K⟩
  refine ⟨_, rfl, ?_⟩
  replace H := SH.updP H (i := 0) rfl K
  clear K
  try dsimp only [replC, List.cons_append, List.nil_append, List.append_nil] at H
  rw [acc0_2] at H ⊢
  dsimp only at H ⊢
  refine r_assign rfl ?_
  refine LW.nil ?_
  refine thenE_norm (h6 _ _ ?_); clear h6; try clear K6
  refine CW.seq (fun K7 h7 => ?_)
  refine CW.region ?_
  refine r_move rfl ?_
  refine r_buildQ rfl Try.underlying27 Try.zeroValue27 rfl (pl := [(0, 1), (1, 1), (2, 2), (4, 1), (5, 1)]) (by intro w; simp [go_sem]) (qs := [(0, [_])]) (cs := [_, .int .i64 0, .int .i64 0, .int .i64 0, .int .i64 0, .slice none 0 0]) ⟨rfl, cells_one (by simp only [upd_get, ev, Nat.reduceEqDiff, ↓reduceIte] <;> rfl) (by first | rfl | exact Rs.oneC (by first | assumption | exact SH.rsR H (by (repeat first | exact At.here | apply At.there); done) | exact SH.rsO H (by (repeat first | exact At.here | apply At.there); done) | exact (Rs.nil : Rs Non _ _ _))), trivial⟩ rfl ?_
  refine r_call rfl Try.call29 (by simp only [List.map_cons, List.map_nil, List.map_toArray, List.toList_toArray, upd_get, ev, Nat.reduceEqDiff, ↓reduceIte] <;> rfl) (Accept_c 3 1 nilB (rs := []) _ (SH.prop H (i := 0) rfl) (Rs.nil : Rs Non _ _ _) (fun _ h => h.elim) nil_small) ?_
  rintro _ w6_2 ⟨FN6_2, rfl, K⟩
  refine ⟨_, rfl, ?_⟩
  replace H := SH.updP H (i := 0) rfl K
  clear K
  try dsimp only [replC, List.cons_append, List.nil_append, List.append_nil] at H
  rw [acc0_3] at H ⊢
  dsimp only at H ⊢
  refine r_assign rfl ?_
  refine LW.nil ?_
  refine thenE_norm ?_
  refine cut (K := K7) [1, 2, 3, 4] (fun σ => ?_)
  simp only [setL, keepE, upd_get, ev, Nat.reduceEqDiff, ↓reduceIte]
  refine h7 _ _ ?_; clear h7; try clear K7
  refine CW.seq (fun K8 h8 => ?_)
  refine CW.region ?_
  refine r_move rfl ?_
  refine r_eql rfl rfl rfl ?_
  refine r_move rfl ?_
  refine LW.known (t := 18) (c := true) rfl (by first | rfl | (simp only [decide_eq_true_eq, decide_eq_false_iff_not, Bool.and_eq_true, Bool.or_eq_true, Bool.and_eq_false_iff, Bool.or_eq_false_iff, Bool.not_eq_true', Bool.not_eq_false', beq_iff_eq, bne_iff_ne]; omega) | simp_all) (fun hg7_3 => ?_)
  refine LW.want rfl rfl hg7_3 ?_
  refine r_move rfl ?_
  refine LW.want rfl rfl hg7_3 ?_
  refine r_eql rfl rfl rfl ?_
  refine r_pickT rfl rfl hg7_3 ?_
  refine r_move rfl ?_
  refine LW.known (t := 22) (c := true) rfl (by first | rfl | (simp only [decide_eq_true_eq, decide_eq_false_iff_not, Bool.and_eq_true, Bool.or_eq_true, Bool.and_eq_false_iff, Bool.or_eq_false_iff, Bool.not_eq_true', Bool.not_eq_false', beq_iff_eq, bne_iff_ne]; omega) | simp_all) (fun hg7_7 => ?_)
  refine LW.want rfl rfl hg7_7 ?_
  refine r_move rfl ?_
  refine LW.want rfl rfl hg7_7 ?_
  refine r_eql rfl rfl rfl ?_
  refine r_pickT rfl rfl hg7_7 ?_
  refine r_move rfl ?_
  refine LW.known (t := 26) (c := true) rfl (by first | rfl | (simp only [decide_eq_true_eq, decide_eq_false_iff_not, Bool.and_eq_true, Bool.or_eq_true, Bool.and_eq_false_iff, Bool.or_eq_false_iff, Bool.not_eq_true', Bool.not_eq_false', beq_iff_eq, bne_iff_ne]; omega) | simp_all) (fun hg7_11 => ?_)
  refine LW.want rfl rfl hg7_11 ?_
  refine r_move rfl ?_
  refine LW.want rfl rfl hg7_11 ?_
  refine r_call rfl Try.call31 (by simp only [List.map_cons, List.map_nil, List.map_toArray, List.toList_toArray, upd_get, ev, Nat.reduceEqDiff, ↓reduceIte] <;> rfl) (Votes_c _ (SH.prop H (by (repeat first | exact At.here | apply At.there); done))) ?_
  rintro _ w7_12 ⟨v7_12, raws7_12, g7_12, F7_12, rfl, K⟩
  refine ⟨_, rfl, ?_⟩
  replace H := SH.call H K
  clear K
  try dsimp only [replC, List.cons_append, List.nil_append, List.append_nil] at H
  have l1 : raws7_12.length = 1 := All2.len (SH.prop H (i := 2) rfl)
  refine LW.want rfl rfl hg7_11 ?_
  first
    | refine r_lenV rfl Try.underlying58 (by simp only [upd_get, ev, Nat.reduceEqDiff, ↓reduceIte] <;> rfl) (by first | assumption | exact SH.rsR H (by (repeat first | exact At.here | apply At.there); done) | exact SH.rsO H (by (repeat first | exact At.here | apply At.there); done) | exact (Rs.nil : Rs Non _ _ _)) ?_
    | refine r_len rfl Try.underlying58 rfl ?_
  refine LW.want rfl rfl hg7_11 ?_
  refine r_eql rfl rfl rfl ?_
  refine r_pickT rfl rfl hg7_11 ?_
  refine r_move rfl ?_
  refine LW.known (t := 32) (c := true) rfl (by simp [l1]) (fun hg7_17 => ?_)
  refine LW.want rfl rfl hg7_17 ?_
  refine r_move rfl ?_
  refine LW.want rfl rfl hg7_17 ?_
  refine r_call rfl Try.call30 (by simp only [List.map_cons, List.map_nil, List.map_toArray, List.toList_toArray, upd_get, ev, Nat.reduceEqDiff, ↓reduceIte] <;> rfl) (BallotA_c _ (SH.prop H (by (repeat first | exact At.here | apply At.there); done))) ?_
  rintro _ _ ⟨rfl, rfl⟩
  refine ⟨_, rfl, ?_⟩
  refine LW.want rfl rfl hg7_17 ?_
  refine r_eql rfl rfl rfl ?_
  refine r_pickT rfl rfl hg7_17 ?_
  refine r_assign rfl ?_
  refine LW.nil ?_
  refine thenE_norm ?_
  refine cut (K := K8) [0] (fun σ => ?_)
  simp only [setL, keepE, upd_get, ev, Nat.reduceEqDiff, ↓reduceIte]
  refine h8 _ _ ?_; clear h8; try clear K8
  refine CW.ret (ret1 Try.results32 (by simp only [upd_get, ev, Nat.reduceEqDiff, ↓reduceIte]; rfl) ?_)
  exact ⟨rfl, H.ext⟩
theorem all2_one {α β : Type} {R : α → β → Prop} {as_ : List α} {b : β} (h : All2 R as_ [b]) : ∃ a, as_ = [a] ∧ R a b := by
  match as_, h with
  | [a], h => exact ⟨a, rfl, h.1⟩
theorem prom_lt {s : AcS} {b : Int} (h0 : 0 ≤ b) (h1 : b ≤ 2305843009213693952) (h : b < s.ballot) : promM s b = (s, 11) := by rw [promM, if_pos (highM_t.2 ⟨h0, h1⟩), if_pos h]
theorem prom_ge {s : AcS} {b : Int} (h0 : 0 ≤ b) (h1 : b ≤ 2305843009213693952) (h : ¬ b < s.ballot) : promM s b = (⟨b, s.done, s.l⟩, 0) := by rw [promM, if_pos (highM_t.2 ⟨h0, h1⟩), if_neg h]
set_option maxHeartbeats 8000000 in
theorem AcceptPromises_c {F : Nat → Prop} {v : Value} {ns : List UInt8} (pr b sl : Int) (w : World) (hv : Rs F w v ns) (hn : ns.length ≤ 140737488355328) (p0 : 0 ≤ pr) (p1 : pr < 65536) (b0 : 0 ≤ b) (b1 : b < 65536) (s0 : 0 ≤ sl) (s1 : sl < 256) :
    Calls Try.prog 6 #[.int .u16 pr, .int .u16 b, .int .u8 sl, v] w fun e w' => e = .returned (.bool true) ∧ Ext0 w w' := by
  have H := (SH.start w).arg hv
  refine calls_of_CW Try.func6 rfl Try.ntmps6 (Nat.le_of_ble_eq_true rfl) ?_
  simp only [argE, argFrom, Nat.reduceAdd]
  refine CW.seq (fun K1 h1 => ?_)
  refine CW.region ?_
  refine r_assign rfl ?_
  refine LW.nil ?_
  refine thenE_norm (h1 _ _ ?_); clear h1; try clear K1
  refine CW.seq (fun K2 h2 => ?_)
  refine CW.region ?_
  refine r_call rfl Try.call27 (by simp only [List.map_cons, List.map_nil, List.map_toArray, List.toList_toArray, upd_get, ev, Nat.reduceEqDiff, ↓reduceIte] <;> rfl) (AccNew_c _) ?_
  rintro _ w1_0 ⟨p, FN, rfl, K⟩
  refine ⟨_, rfl, ?_⟩
  replace H := SH.call H K
  clear K
  try dsimp only [replC, List.cons_append, List.nil_append, List.append_nil] at H
  refine r_assign rfl ?_
  refine LW.nil ?_
  refine thenE_norm (h2 _ _ ?_); clear h2; try clear K2
  refine CW.seq (fun K3 h3 => ?_)
  refine CW.seq (fun K4 h4 => ?_)
  refine CW.region ?_
  refine r_move rfl ?_
  refine r_eqlP rfl Try.underlying53 rfl rfl ?_
  refine r_move rfl ?_
  refine LW.known (t := 17) (c := false) rfl (by first | rfl | (simp only [decide_eq_true_eq, decide_eq_false_iff_not, Bool.and_eq_true, Bool.or_eq_true, Bool.and_eq_false_iff, Bool.or_eq_false_iff, Bool.not_eq_true', Bool.not_eq_false', beq_iff_eq, bne_iff_ne]; omega) | simp_all) (fun hg2_3 => ?_)
  refine LW.want rfl rfl hg2_3 ?_
  refine r_move rfl ?_
  refine LW.want rfl rfl hg2_3 ?_
  refine r_move rfl ?_
  refine LW.want rfl rfl hg2_3 ?_
  refine r_convI rfl Try.underlying40 Try.underlying3 rfl (wr_i64 (by omega) (by omega)) ?_
  refine LW.want rfl rfl hg2_3 ?_
  refine r_call rfl Try.call28 (by simp only [List.map_cons, List.map_nil, List.map_toArray, List.toList_toArray, upd_get, ev, Nat.reduceEqDiff, ↓reduceIte] <;> rfl) (Promise_c _ _ (SH.prop H (by (repeat first | exact At.here | apply At.there); done))) ?_
  rintro _ w2_6 ⟨FN2_6, rfl, K⟩
  refine ⟨_, rfl, ?_⟩
  replace H := SH.updP H (by (repeat first | exact At.here | apply At.there); done) K
  clear K
  try dsimp only [replC, List.cons_append, List.nil_append, List.append_nil] at H
  rw [prom_ge (s := ⟨0, 0, []⟩) p0 (by omega) (show ¬ pr < 0 by omega)] at H ⊢
  dsimp only at H ⊢
  refine LW.want rfl rfl hg2_3 ?_
  refine r_neq rfl rfl rfl ?_
  refine r_pickF rfl rfl hg2_3 ?_
  refine LW.nil ?_
  refine thenE_norm ?_
  refine cut (K := K4) [0, 1, 2, 3, 9, 23] (fun σ => ?_)
  simp only [setL, keepE, upd_get, ev, Nat.reduceEqDiff, ↓reduceIte]
  refine h4 _ _ ?_; clear h4; try clear K4
  refine CW.condF rfl (by first | rfl | (simp only [decide_eq_true_eq, decide_eq_false_iff_not, Bool.and_eq_true, Bool.or_eq_true, Bool.and_eq_false_iff, Bool.or_eq_false_iff, Bool.not_eq_true', Bool.not_eq_false', beq_iff_eq, bne_iff_ne]; omega) | simp_all) ?_
  refine CW.skip ?_
  refine thenE_norm (h3 _ _ ?_); clear h3; try clear K3
  refine CW.seq (fun K5 h5 => ?_)
  refine CW.region ?_
  refine r_move rfl ?_
  refine r_convI rfl Try.underlying5 Try.underlying3 rfl (wr_i64 (by omega) (by omega)) ?_
  refine r_rem rfl rfl rfl (by omega) (by omega) (wr_i64 (by omega) (by omega)) ?_
  refine r_add rfl rfl rfl (wr_i64 (by omega) (by omega)) ?_
  refine r_assign rfl ?_
  refine LW.nil ?_
  refine thenE_norm (h5 _ _ ?_); clear h5; try clear K5
  refine CW.seq (fun K6 h6 => ?_)
  by_cases hlt : b < pr
  · refine CW.region ?_
    refine r_move rfl ?_
    refine r_move rfl ?_
    refine r_convI rfl Try.underlying40 Try.underlying3 rfl (wr_i64 (by omega) (by omega)) ?_
    refine r_call rfl Try.call28 (by simp only [List.map_cons, List.map_nil, List.map_toArray, List.toList_toArray, upd_get, ev, Nat.reduceEqDiff, ↓reduceIte] <;> rfl) (Promise_c _ _ (SH.prop H (by (repeat first | exact At.here | apply At.there); done))) ?_
    rintro _ w5_3 ⟨FN5_3, rfl, K⟩
    refine ⟨_, rfl, ?_⟩
    replace H := SH.updP H (by (repeat first | exact At.here | apply At.there); done) K
    clear K
    try dsimp only [replC, List.cons_append, List.nil_append, List.append_nil] at H
    rw [prom_lt (s := ⟨pr, 0, []⟩) b0 (by omega) hlt] at H ⊢
    dsimp only at H ⊢
    refine r_assign rfl ?_
    refine LW.nil ?_
    refine thenE_norm ?_
    refine cut (K := K6) [0, 1, 3, 9, 10, 11] (fun σ => ?_)
    simp only [setL, keepE, upd_get, ev, Nat.reduceEqDiff, ↓reduceIte]
    refine h6 _ _ ?_; clear h6; try clear K6
    refine CW.seq (fun K7 h7 => ?_)
    refine CW.region ?_
    refine r_move rfl ?_
    refine r_move rfl ?_
    refine r_convI rfl Try.underlying40 Try.underlying3 rfl (wr_i64 (by omega) (by omega)) ?_
    refine r_move rfl ?_
    refine r_move rfl ?_
    refine r_call rfl Try.call16 (by simp only [List.map_cons, List.map_nil, List.map_toArray, List.toList_toArray, upd_get, ev, Nat.reduceEqDiff, ↓reduceIte] <;> rfl) (BatchN_c _ (SH.rsR H (i := 0) rfl) hn) ?_
    rintro _ w6_5 ⟨v6_5, g6_5, rfl, hm6_5, hs6_5, K⟩
    refine ⟨_, rfl, ?_⟩
    replace H := SH.call H K
    clear K
    try dsimp only [replC, List.cons_append, List.nil_append, List.append_nil] at H
    refine r_call rfl Try.call29 (by simp only [List.map_cons, List.map_nil, List.map_toArray, List.toList_toArray, upd_get, ev, Nat.reduceEqDiff, ↓reduceIte] <;> rfl) (Accept_c _ _ ⟨_, _, _, _, _⟩ _ (SH.prop H (i := 1) rfl) (SH.rsO H (i := 2) rfl) (SH.apartPO H (i := 1) (j := 2) rfl rfl (by decide)) hs6_5) ?_
    rintro _ w6_6 ⟨FN6_6, rfl, K⟩
    refine ⟨_, rfl, ?_⟩
    replace H := SH.updP H (i := 1) rfl K
    clear K
    try dsimp only [replC, List.cons_append, List.nil_append, List.append_nil] at H
    rw [acc_old (s := ⟨pr, 0, []⟩) (m := vmB (1 + sl % 9) b ⟨(batN ns).fill, (batN ns).view, (batN ns).tip, (batN ns).time, v6_5⟩ (batN ns).rs) ⟨highM_t.2 ⟨b0, show b ≤ _ by omega⟩, show 1 ≤ 1 + sl % 9 by omega, show 1 + sl % 9 ≤ _ by omega, hm6_5⟩ (.inl hlt)] at H ⊢
    dsimp only at H ⊢
    refine r_assign rfl ?_
    refine LW.nil ?_
    refine thenE_norm ?_
    refine cut (K := K7) [0, 1, 3, 9, 10, 11, 12] (fun σ => ?_)
    simp only [setL, keepE, upd_get, ev, Nat.reduceEqDiff, ↓reduceIte]
    refine h7 _ _ ?_; clear h7; try clear K7
    refine CW.seq (fun K8 h8 => ?_)
    refine CW.seq (fun K9 h9 => ?_)
    refine CW.region ?_
    refine r_move rfl ?_
    refine r_move rfl ?_
    refine r_lss rfl rfl rfl ?_
    refine LW.nil ?_
    refine thenE_norm (h9 _ _ ?_); clear h9; try clear K9
    refine CW.condT rfl (by first | rfl | (simp only [decide_eq_true_eq, decide_eq_false_iff_not, Bool.and_eq_true, Bool.or_eq_true, Bool.and_eq_false_iff, Bool.or_eq_false_iff, Bool.not_eq_true', Bool.not_eq_false', beq_iff_eq, bne_iff_ne]; omega) | simp_all) ?_
    refine CW.seq (fun K10 h10 => ?_)
    refine CW.region ?_
    refine r_move rfl ?_
    refine r_eql rfl rfl rfl ?_
    refine r_move rfl ?_
    refine LW.known (t := 44) (c := true) rfl (by first | rfl | (simp only [decide_eq_true_eq, decide_eq_false_iff_not, Bool.and_eq_true, Bool.or_eq_true, Bool.and_eq_false_iff, Bool.or_eq_false_iff, Bool.not_eq_true', Bool.not_eq_false', beq_iff_eq, bne_iff_ne]; omega) | simp_all) (fun hg8_3 => ?_)
    refine LW.want rfl rfl hg8_3 ?_
    refine r_move rfl ?_
    refine LW.want rfl rfl hg8_3 ?_
    refine r_eql rfl rfl rfl ?_
    refine r_pickT rfl rfl hg8_3 ?_
    refine r_move rfl ?_
    refine LW.known (t := 48) (c := true) rfl (by first | rfl | (simp only [decide_eq_true_eq, decide_eq_false_iff_not, Bool.and_eq_true, Bool.or_eq_true, Bool.and_eq_false_iff, Bool.or_eq_false_iff, Bool.not_eq_true', Bool.not_eq_false', beq_iff_eq, bne_iff_ne]; omega) | simp_all) (fun hg8_7 => ?_)
    refine LW.want rfl rfl hg8_7 ?_
    refine r_move rfl ?_
    refine LW.want rfl rfl hg8_7 ?_
    refine r_call rfl Try.call30 (by simp only [List.map_cons, List.map_nil, List.map_toArray, List.toList_toArray, upd_get, ev, Nat.reduceEqDiff, ↓reduceIte] <;> rfl) (BallotA_c _ (SH.prop H (by (repeat first | exact At.here | apply At.there); done))) ?_
    rintro _ _ ⟨rfl, rfl⟩
    refine ⟨_, rfl, ?_⟩
    refine LW.want rfl rfl hg8_7 ?_
    refine r_move rfl ?_
    refine LW.want rfl rfl hg8_7 ?_
    refine r_convI rfl Try.underlying40 Try.underlying3 rfl (wr_i64 (by omega) (by omega)) ?_
    refine LW.want rfl rfl hg8_7 ?_
    refine r_eql rfl rfl rfl ?_
    refine r_pickT rfl rfl hg8_7 ?_
    refine r_move rfl ?_
    refine LW.known (t := 55) (c := true) rfl (by simp) (fun hg8_14 => ?_)
    refine LW.want rfl rfl hg8_14 ?_
    refine r_move rfl ?_
    refine LW.want rfl rfl hg8_14 ?_
    refine r_call rfl Try.call31 (by simp only [List.map_cons, List.map_nil, List.map_toArray, List.toList_toArray, upd_get, ev, Nat.reduceEqDiff, ↓reduceIte] <;> rfl) (Votes_c _ (SH.prop H (by (repeat first | exact At.here | apply At.there); done))) ?_
    rintro _ w8_15 ⟨v8_15, raws8_15, g8_15, F8_15, rfl, K⟩
    refine ⟨_, rfl, ?_⟩
    replace H := SH.call H K
    clear K
    try dsimp only [replC, List.cons_append, List.nil_append, List.append_nil] at H
    have l1 : raws8_15.length = 0 := All2.len (SH.prop H (i := 4) rfl)
    refine LW.want rfl rfl hg8_14 ?_
    first
      | refine r_lenV rfl Try.underlying58 (by simp only [upd_get, ev, Nat.reduceEqDiff, ↓reduceIte] <;> rfl) (by first | assumption | exact SH.rsR H (by (repeat first | exact At.here | apply At.there); done) | exact SH.rsO H (by (repeat first | exact At.here | apply At.there); done) | exact (Rs.nil : Rs Non _ _ _)) ?_
      | refine r_len rfl Try.underlying58 rfl ?_
    refine LW.want rfl rfl hg8_14 ?_
    refine r_eql rfl rfl rfl ?_
    refine r_pickT rfl rfl hg8_14 ?_
    refine r_move rfl ?_
    refine LW.known (t := 61) (c := true) rfl (by simp [l1]) (fun hg8_20 => ?_)
    refine LW.want rfl rfl hg8_20 ?_
    refine r_call rfl Try.call32 (by simp only [List.map_cons, List.map_nil, List.map_toArray, List.toList_toArray, upd_get, ev, Nat.reduceEqDiff, ↓reduceIte] <;> rfl) (awake14_c _) ?_
    rintro _ w8_20 ⟨rfl, X⟩
    refine ⟨_, rfl, ?_⟩
    replace H := SH.same H X
    clear X
    refine r_pickT rfl rfl hg8_20 ?_
    refine r_assign rfl ?_
    refine LW.nil ?_
    refine thenE_norm ?_
    refine cut (K := K10) [8] (fun σ => ?_)
    simp only [setL, keepE, upd_get, ev, Nat.reduceEqDiff, ↓reduceIte]
    refine h10 _ _ ?_; clear h10; try clear K10
    refine CW.ret (thenE_ret (ret1 Try.results6 (by simp only [upd_get, ev, Nat.reduceEqDiff, ↓reduceIte]; rfl) ?_))
    exact ⟨rfl, H.ext⟩
  · refine CW.region ?_
    refine r_move rfl ?_
    refine r_move rfl ?_
    refine r_convI rfl Try.underlying40 Try.underlying3 rfl (wr_i64 (by omega) (by omega)) ?_
    refine r_call rfl Try.call28 (by simp only [List.map_cons, List.map_nil, List.map_toArray, List.toList_toArray, upd_get, ev, Nat.reduceEqDiff, ↓reduceIte] <;> rfl) (Promise_c _ _ (SH.prop H (by (repeat first | exact At.here | apply At.there); done))) ?_
    rintro _ w5_3 ⟨FN5_3, rfl, K⟩
    refine ⟨_, rfl, ?_⟩
    replace H := SH.updP H (by (repeat first | exact At.here | apply At.there); done) K
    clear K
    try dsimp only [replC, List.cons_append, List.nil_append, List.append_nil] at H
    rw [prom_ge (s := ⟨pr, 0, []⟩) b0 (by omega) hlt] at H ⊢
    dsimp only at H ⊢
    refine r_assign rfl ?_
    refine LW.nil ?_
    refine thenE_norm ?_
    refine cut (K := K6) [0, 1, 3, 9, 10, 11] (fun σ => ?_)
    simp only [setL, keepE, upd_get, ev, Nat.reduceEqDiff, ↓reduceIte]
    refine h6 _ _ ?_; clear h6; try clear K6
    refine CW.seq (fun K11 h11 => ?_)
    refine CW.region ?_
    refine r_move rfl ?_
    refine r_move rfl ?_
    refine r_convI rfl Try.underlying40 Try.underlying3 rfl (wr_i64 (by omega) (by omega)) ?_
    refine r_move rfl ?_
    refine r_move rfl ?_
    refine r_call rfl Try.call16 (by simp only [List.map_cons, List.map_nil, List.map_toArray, List.toList_toArray, upd_get, ev, Nat.reduceEqDiff, ↓reduceIte] <;> rfl) (BatchN_c _ (SH.rsR H (i := 0) rfl) hn) ?_
    rintro _ w6_5 ⟨v6_5, g6_5, rfl, hm6_5, hs6_5, K⟩
    refine ⟨_, rfl, ?_⟩
    replace H := SH.call H K
    clear K
    try dsimp only [replC, List.cons_append, List.nil_append, List.append_nil] at H
    refine r_call rfl Try.call29 (by simp only [List.map_cons, List.map_nil, List.map_toArray, List.toList_toArray, upd_get, ev, Nat.reduceEqDiff, ↓reduceIte] <;> rfl) (Accept_c _ _ ⟨_, _, _, _, _⟩ _ (SH.prop H (i := 1) rfl) (SH.rsO H (i := 2) rfl) (SH.apartPO H (i := 1) (j := 2) rfl rfl (by decide)) hs6_5) ?_
    rintro _ w6_6 ⟨FN6_6, rfl, K⟩
    refine ⟨_, rfl, ?_⟩
    replace H := SH.updP H (i := 1) rfl K
    clear K
    try dsimp only [replC, List.cons_append, List.nil_append, List.append_nil] at H
    rw [acc_put (s := ⟨b, 0, []⟩) (m := vmB (1 + sl % 9) b ⟨(batN ns).fill, (batN ns).view, (batN ns).tip, (batN ns).time, v6_5⟩ (batN ns).rs) ⟨highM_t.2 ⟨b0, show b ≤ _ by omega⟩, show 1 ≤ 1 + sl % 9 by omega, show 1 + sl % 9 ≤ _ by omega, hm6_5⟩ (show ¬ (b < b ∨ 1 + sl % 9 ≤ 0) by omega) (show ¬ 9 < 1 + sl % 9 - 0 by omega)] at H ⊢
    dsimp only [putK, List.filter_nil, List.nil_append] at H ⊢
    refine r_assign rfl ?_
    refine LW.nil ?_
    refine thenE_norm ?_
    refine cut (K := K11) [0, 1, 3, 9, 10, 11, 12] (fun σ => ?_)
    simp only [setL, keepE, upd_get, ev, Nat.reduceEqDiff, ↓reduceIte]
    refine h11 _ _ ?_; clear h11; try clear K11
    refine CW.seq (fun K12 h12 => ?_)
    refine CW.seq (fun K13 h13 => ?_)
    refine CW.region ?_
    refine r_move rfl ?_
    refine r_move rfl ?_
    refine r_lss rfl rfl rfl ?_
    refine LW.nil ?_
    refine thenE_norm (h13 _ _ ?_); clear h13; try clear K13
    refine CW.condF rfl (by first | rfl | (simp only [decide_eq_true_eq, decide_eq_false_iff_not, Bool.and_eq_true, Bool.or_eq_true, Bool.and_eq_false_iff, Bool.or_eq_false_iff, Bool.not_eq_true', Bool.not_eq_false', beq_iff_eq, bne_iff_ne]; omega) | simp_all) ?_
    refine CW.skip ?_
    refine thenE_norm (h12 _ _ ?_); clear h12; try clear K12
    refine CW.seq (fun K14 h14 => ?_)
    refine CW.region ?_
    refine r_move rfl ?_
    refine r_call rfl Try.call31 (by simp only [List.map_cons, List.map_nil, List.map_toArray, List.toList_toArray, upd_get, ev, Nat.reduceEqDiff, ↓reduceIte] <;> rfl) (Votes_c _ (SH.prop H (by (repeat first | exact At.here | apply At.there); done))) ?_
    rintro _ w9_1 ⟨v9_1, raws9_1, g9_1, F9_1, rfl, K⟩
    refine ⟨_, rfl, ?_⟩
    replace H := SH.call H K
    clear K
    try dsimp only [replC, List.cons_append, List.nil_append, List.append_nil] at H
    obtain ⟨r, hraw, hrr⟩ := all2_one (SH.prop H (i := 4) rfl)
    rw [hraw] at H
    obtain ⟨r1, r2, ⟨r3, r4, ⟨r5, r6⟩, r7, r8⟩⟩ := r
    obtain ⟨e1, e2, e3, e4, e5, e6, e7⟩ := hrr
    dsimp only [vmB] at e1 e2 e3 e4 e5 e6 e7
    have hsame : sameBat r3 r4 ⟨r5, r6⟩ r7 (batN ns).rs (batN ns).fill (batN ns).view (batN ns).tip (batN ns).time (batN ns).rs = true := decide_eq_true ⟨e3, e4, by rw [e5], by rw [e5], e6, rfl⟩
    have hr0 : [(⟨r1, r2, ⟨r3, r4, ⟨r5, r6⟩, r7, r8⟩⟩ : Vt)][0]? = some ⟨r1, r2, ⟨r3, r4, ⟨r5, r6⟩, r7, r8⟩⟩ := rfl
    refine r_assign rfl ?_
    refine LW.nil ?_
    refine thenE_norm (h14 _ _ ?_); clear h14; try clear K14
    refine CW.seq (fun K15 h15 => ?_)
    refine CW.drawP [3] [] H (by dsimp only [pickC, nthC] <;> rfl) (by repeat first | exact List.Sublist.refl _ | exact List.nil_sublist _ | apply List.Sublist.cons_cons | apply List.Sublist.cons) (by kernel_rfl) rfl ?_
    clear H
    intro w10d H
    refine DL.take (i := 0) [] rfl (by kernel_rfl) (by kernel_rfl) (by kernel_rfl) (by kernel_rfl) rfl rfl (fun u H => x_move ) (SH.sub H (by repeat first | exact List.Sublist.refl _ | exact List.nil_sublist _ | apply List.Sublist.cons_cons | apply List.Sublist.cons)) ?_
    refine DL.take (i := 1) [] rfl (by kernel_rfl) (by kernel_rfl) (by kernel_rfl) (by kernel_rfl) rfl rfl (fun u H => x_eql rfl rfl) (SH.sub H (by repeat first | exact List.Sublist.refl _ | exact List.nil_sublist _ | apply List.Sublist.cons_cons | apply List.Sublist.cons)) ?_
    refine DL.take (i := 2) [] rfl (by kernel_rfl) (by kernel_rfl) (by kernel_rfl) (by kernel_rfl) rfl rfl (fun u H => x_move ) (SH.sub H (by repeat first | exact List.Sublist.refl _ | exact List.nil_sublist _ | apply List.Sublist.cons_cons | apply List.Sublist.cons)) ?_
    refine DL.known (t := 68) (c := true) rfl (by first | rfl | (simp only [decide_eq_true_eq, decide_eq_false_iff_not, Bool.and_eq_true, Bool.or_eq_true, Bool.and_eq_false_iff, Bool.or_eq_false_iff, Bool.not_eq_true', Bool.not_eq_false', beq_iff_eq, bne_iff_ne]; omega) | simp_all) (fun hg10_2 => ?_)
    refine DL.take (i := 3) [] rfl (by kernel_rfl) (by kernel_rfl) (by kernel_rfl) (by kernel_rfl) rfl (wantE rfl rfl hg10_2) (fun u H => x_move ) (SH.sub H (by repeat first | exact List.Sublist.refl _ | exact List.nil_sublist _ | apply List.Sublist.cons_cons | apply List.Sublist.cons)) ?_
    refine DL.take (i := 4) [] rfl (by kernel_rfl) (by kernel_rfl) (by kernel_rfl) (by kernel_rfl) rfl (wantE rfl rfl hg10_2) (fun u H => x_eql rfl rfl) (SH.sub H (by repeat first | exact List.Sublist.refl _ | exact List.nil_sublist _ | apply List.Sublist.cons_cons | apply List.Sublist.cons)) ?_
    refine DL.take (i := 5) [] rfl (by kernel_rfl) (by kernel_rfl) (by kernel_rfl) (by kernel_rfl) rfl rfl (fun u H => x_pickT rfl hg10_2) (SH.sub H (by repeat first | exact List.Sublist.refl _ | exact List.nil_sublist _ | apply List.Sublist.cons_cons | apply List.Sublist.cons)) ?_
    refine DL.take (i := 6) [] rfl (by kernel_rfl) (by kernel_rfl) (by kernel_rfl) (by kernel_rfl) rfl rfl (fun u H => x_move ) (SH.sub H (by repeat first | exact List.Sublist.refl _ | exact List.nil_sublist _ | apply List.Sublist.cons_cons | apply List.Sublist.cons)) ?_
    refine DL.known (t := 72) (c := true) rfl (by first | rfl | (simp only [decide_eq_true_eq, decide_eq_false_iff_not, Bool.and_eq_true, Bool.or_eq_true, Bool.and_eq_false_iff, Bool.or_eq_false_iff, Bool.not_eq_true', Bool.not_eq_false', beq_iff_eq, bne_iff_ne]; omega) | simp_all) (fun hg10_6 => ?_)
    refine DL.take (i := 7) [] rfl (by kernel_rfl) (by kernel_rfl) (by kernel_rfl) (by kernel_rfl) rfl (wantE rfl rfl hg10_6) (fun u H => x_move ) (SH.sub H (by repeat first | exact List.Sublist.refl _ | exact List.nil_sublist _ | apply List.Sublist.cons_cons | apply List.Sublist.cons)) ?_
    refine DL.take (i := 9) [] rfl (by kernel_rfl) (by kernel_rfl) (by kernel_rfl) (by kernel_rfl) rfl (wantE rfl rfl hg10_6) (fun u H => x_move ) (SH.sub H (by repeat first | exact List.Sublist.refl _ | exact List.nil_sublist _ | apply List.Sublist.cons_cons | apply List.Sublist.cons)) ?_
    refine DL.take (i := 10) [] rfl (by kernel_rfl) (by kernel_rfl) (by kernel_rfl) (by kernel_rfl) rfl (wantE rfl rfl hg10_6) (fun u H => x_convI Try.underlying40 Try.underlying3 rfl (wr_i64 (by omega) (by omega))) (SH.sub H (by repeat first | exact List.Sublist.refl _ | exact List.nil_sublist _ | apply List.Sublist.cons_cons | apply List.Sublist.cons)) ?_
    refine DL.one (i := 8) (by kernel_rfl) rfl (wantE rfl rfl hg10_6) ?_
    refine r_call rfl Try.call30 (by simp only [List.map_cons, List.map_nil, List.map_toArray, List.toList_toArray, upd_get, ev, Nat.reduceEqDiff, ↓reduceIte] <;> rfl) (BallotA_c _ (SH.prop H (by (repeat first | exact At.here | apply At.there); done))) ?_
    rintro _ _ ⟨rfl, rfl⟩
    refine ⟨_, rfl, ?_⟩
    refine LW.nil (thenE_norm ⟨fun _ => (SH.sub H (by repeat first | exact List.Sublist.refl _ | exact List.nil_sublist _ | apply List.Sublist.cons_cons | apply List.Sublist.cons)), ?_⟩)
    refine DL.take (i := 11) [] rfl (by kernel_rfl) (by kernel_rfl) (by kernel_rfl) (by kernel_rfl) rfl (wantE rfl rfl hg10_6) (fun u H => x_eql rfl rfl) (SH.sub H (by repeat first | exact List.Sublist.refl _ | exact List.nil_sublist _ | apply List.Sublist.cons_cons | apply List.Sublist.cons)) ?_
    refine DL.take (i := 12) [] rfl (by kernel_rfl) (by kernel_rfl) (by kernel_rfl) (by kernel_rfl) rfl rfl (fun u H => x_pickT rfl hg10_6) (SH.sub H (by repeat first | exact List.Sublist.refl _ | exact List.nil_sublist _ | apply List.Sublist.cons_cons | apply List.Sublist.cons)) ?_
    refine DL.take (i := 13) [] rfl (by kernel_rfl) (by kernel_rfl) (by kernel_rfl) (by kernel_rfl) rfl rfl (fun u H => x_move ) (SH.sub H (by repeat first | exact List.Sublist.refl _ | exact List.nil_sublist _ | apply List.Sublist.cons_cons | apply List.Sublist.cons)) ?_
    refine DL.known (t := 79) (c := true) rfl (by simp [vmB]) (fun hg10_13 => ?_)
    refine DL.take (i := 14) [] rfl (by kernel_rfl) (by kernel_rfl) (by kernel_rfl) (by kernel_rfl) rfl (wantE rfl rfl hg10_13) (fun u H => x_move ) (SH.sub H (by repeat first | exact List.Sublist.refl _ | exact List.nil_sublist _ | apply List.Sublist.cons_cons | apply List.Sublist.cons)) ?_
    refine DL.take (i := 15) [] rfl (by kernel_rfl) (by kernel_rfl) (by kernel_rfl) (by kernel_rfl) rfl (wantE rfl rfl hg10_13) (fun u H => x_lenV Try.underlying58 (by simp only [upd_get, ev, Nat.reduceEqDiff, ↓reduceIte] <;> rfl) (by first | assumption | exact SH.rsR H (by (repeat first | exact At.here | apply At.there); done) | exact SH.rsO H (by (repeat first | exact At.here | apply At.there); done) | exact (Rs.nil : Rs Non _ _ _))) (SH.sub H (by repeat first | exact List.Sublist.refl _ | exact List.nil_sublist _ | apply List.Sublist.cons_cons | apply List.Sublist.cons)) ?_
    refine DL.take (i := 16) [] rfl (by kernel_rfl) (by kernel_rfl) (by kernel_rfl) (by kernel_rfl) rfl (wantE rfl rfl hg10_13) (fun u H => x_eql rfl rfl) (SH.sub H (by repeat first | exact List.Sublist.refl _ | exact List.nil_sublist _ | apply List.Sublist.cons_cons | apply List.Sublist.cons)) ?_
    refine DL.take (i := 17) [] rfl (by kernel_rfl) (by kernel_rfl) (by kernel_rfl) (by kernel_rfl) rfl rfl (fun u H => x_pickT rfl hg10_13) (SH.sub H (by repeat first | exact List.Sublist.refl _ | exact List.nil_sublist _ | apply List.Sublist.cons_cons | apply List.Sublist.cons)) ?_
    refine DL.take (i := 18) [] rfl (by kernel_rfl) (by kernel_rfl) (by kernel_rfl) (by kernel_rfl) rfl rfl (fun u H => x_move ) (SH.sub H (by repeat first | exact List.Sublist.refl _ | exact List.nil_sublist _ | apply List.Sublist.cons_cons | apply List.Sublist.cons)) ?_
    refine DL.known (t := 84) (c := true) rfl (by first | rfl | (simp only [decide_eq_true_eq, decide_eq_false_iff_not, Bool.and_eq_true, Bool.or_eq_true, Bool.and_eq_false_iff, Bool.or_eq_false_iff, Bool.not_eq_true', Bool.not_eq_false', beq_iff_eq, bne_iff_ne]; omega) | simp_all) (fun hg10_18 => ?_)
    refine DL.take (i := 19) [] rfl (by kernel_rfl) (by kernel_rfl) (by kernel_rfl) (by kernel_rfl) rfl (wantE rfl rfl hg10_18) (fun u H => x_move ) (SH.sub H (by repeat first | exact List.Sublist.refl _ | exact List.nil_sublist _ | apply List.Sublist.cons_cons | apply List.Sublist.cons)) ?_
    refine DL.take (i := 20) [] rfl (by kernel_rfl) (by kernel_rfl) (by kernel_rfl) (by kernel_rfl) rfl (wantE rfl rfl hg10_18) (fun u H => x_indexAddrV Try.underlying58 (by simp only [upd_get, ev, Nat.reduceEqDiff, ↓reduceIte] <;> rfl) rfl (by first | assumption | exact SH.rsR H (by (repeat first | exact At.here | apply At.there); done) | exact SH.rsO H (by (repeat first | exact At.here | apply At.there); done) | exact (Rs.nil : Rs Non _ _ _)) (by exact Try.sizeOf61) (by decide) (by simp)) (SH.sub H (by repeat first | exact List.Sublist.refl _ | exact List.nil_sublist _ | apply List.Sublist.cons_cons | apply List.Sublist.cons)) ?_
    refine DL.take (i := 21) [] rfl (by kernel_rfl) (by kernel_rfl) (by kernel_rfl) (by kernel_rfl) rfl (wantE rfl rfl hg10_18) (fun u H => x_fieldAddrO Try.underlying61 rfl Try.sizeOf3 (by decide) (show _ + 0 = _ from rfl) rfl) (SH.sub H (by repeat first | exact List.Sublist.refl _ | exact List.nil_sublist _ | apply List.Sublist.cons_cons | apply List.Sublist.cons)) ?_
    refine DL.take (i := 22) [] rfl (by kernel_rfl) (by kernel_rfl) (by kernel_rfl) (by kernel_rfl) rfl (wantE rfl rfl hg10_18) (fun u H => x_load Try.isAgg3 rfl (Rs.cell0 (i := 0) (by exact SH.rsO H (i := 0) rfl) hr0 rfl)) (SH.sub H (by repeat first | exact List.Sublist.refl _ | exact List.nil_sublist _ | apply List.Sublist.cons_cons | apply List.Sublist.cons)) ?_
    refine DL.take (i := 23) [] rfl (by kernel_rfl) (by kernel_rfl) (by kernel_rfl) (by kernel_rfl) rfl (wantE rfl rfl hg10_18) (fun u H => x_move ) (SH.sub H (by repeat first | exact List.Sublist.refl _ | exact List.nil_sublist _ | apply List.Sublist.cons_cons | apply List.Sublist.cons)) ?_
    refine DL.take (i := 24) [] rfl (by kernel_rfl) (by kernel_rfl) (by kernel_rfl) (by kernel_rfl) rfl (wantE rfl rfl hg10_18) (fun u H => x_eql rfl rfl) (SH.sub H (by repeat first | exact List.Sublist.refl _ | exact List.nil_sublist _ | apply List.Sublist.cons_cons | apply List.Sublist.cons)) ?_
    refine DL.take (i := 25) [] rfl (by kernel_rfl) (by kernel_rfl) (by kernel_rfl) (by kernel_rfl) rfl rfl (fun u H => x_pickT rfl hg10_18) (SH.sub H (by repeat first | exact List.Sublist.refl _ | exact List.nil_sublist _ | apply List.Sublist.cons_cons | apply List.Sublist.cons)) ?_
    refine DL.take (i := 26) [] rfl (by kernel_rfl) (by kernel_rfl) (by kernel_rfl) (by kernel_rfl) rfl rfl (fun u H => x_move ) (SH.sub H (by repeat first | exact List.Sublist.refl _ | exact List.nil_sublist _ | apply List.Sublist.cons_cons | apply List.Sublist.cons)) ?_
    refine DL.known (t := 92) (c := true) rfl (by simp [e1]) (fun hg10_26 => ?_)
    refine DL.take (i := 27) [] rfl (by kernel_rfl) (by kernel_rfl) (by kernel_rfl) (by kernel_rfl) rfl (wantE rfl rfl hg10_26) (fun u H => x_move ) (SH.sub H (by repeat first | exact List.Sublist.refl _ | exact List.nil_sublist _ | apply List.Sublist.cons_cons | apply List.Sublist.cons)) ?_
    refine DL.take (i := 28) [] rfl (by kernel_rfl) (by kernel_rfl) (by kernel_rfl) (by kernel_rfl) rfl (wantE rfl rfl hg10_26) (fun u H => x_indexAddrV Try.underlying58 (by simp only [upd_get, ev, Nat.reduceEqDiff, ↓reduceIte] <;> rfl) rfl (by first | assumption | exact SH.rsR H (by (repeat first | exact At.here | apply At.there); done) | exact SH.rsO H (by (repeat first | exact At.here | apply At.there); done) | exact (Rs.nil : Rs Non _ _ _)) (by exact Try.sizeOf61) (by decide) (by simp)) (SH.sub H (by repeat first | exact List.Sublist.refl _ | exact List.nil_sublist _ | apply List.Sublist.cons_cons | apply List.Sublist.cons)) ?_
    refine DL.take (i := 29) [] rfl (by kernel_rfl) (by kernel_rfl) (by kernel_rfl) (by kernel_rfl) rfl (wantE rfl rfl hg10_26) (fun u H => x_fieldAddrO Try.underlying61 rfl Try.sizeOf3 (by decide) (show _ + 1 = _ from rfl) rfl) (SH.sub H (by repeat first | exact List.Sublist.refl _ | exact List.nil_sublist _ | apply List.Sublist.cons_cons | apply List.Sublist.cons)) ?_
    refine DL.take (i := 30) [] rfl (by kernel_rfl) (by kernel_rfl) (by kernel_rfl) (by kernel_rfl) rfl (wantE rfl rfl hg10_26) (fun u H => x_load Try.isAgg3 rfl (Rs.cell (o := 1) (i := 0) (by exact SH.rsO H (i := 0) rfl) hr0 rfl)) (SH.sub H (by repeat first | exact List.Sublist.refl _ | exact List.nil_sublist _ | apply List.Sublist.cons_cons | apply List.Sublist.cons)) ?_
    refine DL.take (i := 31) [] rfl (by kernel_rfl) (by kernel_rfl) (by kernel_rfl) (by kernel_rfl) rfl (wantE rfl rfl hg10_26) (fun u H => x_move ) (SH.sub H (by repeat first | exact List.Sublist.refl _ | exact List.nil_sublist _ | apply List.Sublist.cons_cons | apply List.Sublist.cons)) ?_
    refine DL.take (i := 32) [] rfl (by kernel_rfl) (by kernel_rfl) (by kernel_rfl) (by kernel_rfl) rfl (wantE rfl rfl hg10_26) (fun u H => x_convI Try.underlying40 Try.underlying3 rfl (wr_i64 (by omega) (by omega))) (SH.sub H (by repeat first | exact List.Sublist.refl _ | exact List.nil_sublist _ | apply List.Sublist.cons_cons | apply List.Sublist.cons)) ?_
    refine DL.take (i := 33) [] rfl (by kernel_rfl) (by kernel_rfl) (by kernel_rfl) (by kernel_rfl) rfl (wantE rfl rfl hg10_26) (fun u H => x_eql rfl rfl) (SH.sub H (by repeat first | exact List.Sublist.refl _ | exact List.nil_sublist _ | apply List.Sublist.cons_cons | apply List.Sublist.cons)) ?_
    refine DL.take (i := 34) [] rfl (by kernel_rfl) (by kernel_rfl) (by kernel_rfl) (by kernel_rfl) rfl rfl (fun u H => x_pickT rfl hg10_26) (SH.sub H (by repeat first | exact List.Sublist.refl _ | exact List.nil_sublist _ | apply List.Sublist.cons_cons | apply List.Sublist.cons)) ?_
    refine DL.take (i := 35) [] rfl (by kernel_rfl) (by kernel_rfl) (by kernel_rfl) (by kernel_rfl) rfl rfl (fun u H => x_move ) (SH.sub H (by repeat first | exact List.Sublist.refl _ | exact List.nil_sublist _ | apply List.Sublist.cons_cons | apply List.Sublist.cons)) ?_
    refine DL.known (t := 101) (c := true) rfl (by simp [e2]) (fun hg10_35 => ?_)
    refine DL.take (i := 36) [] rfl (by kernel_rfl) (by kernel_rfl) (by kernel_rfl) (by kernel_rfl) rfl (wantE rfl rfl hg10_35) (fun u H => x_move ) (SH.sub H (by repeat first | exact List.Sublist.refl _ | exact List.nil_sublist _ | apply List.Sublist.cons_cons | apply List.Sublist.cons)) ?_
    refine DL.take (i := 37) [] rfl (by kernel_rfl) (by kernel_rfl) (by kernel_rfl) (by kernel_rfl) rfl (wantE rfl rfl hg10_35) (fun u H => x_indexAddrV Try.underlying58 (by simp only [upd_get, ev, Nat.reduceEqDiff, ↓reduceIte] <;> rfl) rfl (by first | assumption | exact SH.rsR H (by (repeat first | exact At.here | apply At.there); done) | exact SH.rsO H (by (repeat first | exact At.here | apply At.there); done) | exact (Rs.nil : Rs Non _ _ _)) (by exact Try.sizeOf61) (by decide) (by simp)) (SH.sub H (by repeat first | exact List.Sublist.refl _ | exact List.nil_sublist _ | apply List.Sublist.cons_cons | apply List.Sublist.cons)) ?_
    refine DL.take (i := 38) [] rfl (by kernel_rfl) (by kernel_rfl) (by kernel_rfl) (by kernel_rfl) rfl (wantE rfl rfl hg10_35) (fun u H => x_fieldAddrO Try.underlying61 rfl Try.sizeOf27 (by decide) (show _ + 2 = _ from rfl) rfl) (SH.sub H (by repeat first | exact List.Sublist.refl _ | exact List.nil_sublist _ | apply List.Sublist.cons_cons | apply List.Sublist.cons)) ?_
    refine DL.take (i := 39) [] rfl (by kernel_rfl) (by kernel_rfl) (by kernel_rfl) (by kernel_rfl) rfl (wantE rfl rfl hg10_35) (fun u H => x_loadA Try.isAgg27 Try.sizeOf27 rfl (Rs.partOf (o := 2) (n := 6) (i := 0) (by exact SH.rsO H (i := 0) rfl) hr0 rfl) rfl) (SH.sub H (by repeat first | exact List.Sublist.refl _ | exact List.nil_sublist _ | apply List.Sublist.cons_cons | apply List.Sublist.cons)) ?_
    refine DL.take (i := 40) [] rfl (by kernel_rfl) (by kernel_rfl) (by kernel_rfl) (by kernel_rfl) rfl (wantE rfl rfl hg10_35) (fun u H => x_move ) (SH.sub H (by repeat first | exact List.Sublist.refl _ | exact List.nil_sublist _ | apply List.Sublist.cons_cons | apply List.Sublist.cons)) ?_
    refine DL.one (i := 41) (by kernel_rfl) rfl (wantE rfl rfl hg10_35) ?_
    refine r_call rfl Try.call16 (by simp only [List.map_cons, List.map_nil, List.map_toArray, List.toList_toArray, upd_get, ev, Nat.reduceEqDiff, ↓reduceIte] <;> rfl) (BatchN_c _ (SH.rsR H (i := 0) rfl) hn) ?_
    rintro _ w10_41 ⟨v10_41, g10_41, rfl, hm10_41, hs10_41, K⟩
    refine ⟨_, rfl, ?_⟩
    replace H := SH.call H K
    clear K
    try dsimp only [replC, List.cons_append, List.nil_append, List.append_nil] at H
    refine LW.nil (thenE_norm ⟨fun _ => (SH.sub H (by repeat first | exact List.Sublist.refl _ | exact List.nil_sublist _ | apply List.Sublist.cons_cons | apply List.Sublist.cons)), ?_⟩)
    refine DL.one (i := 42) (by kernel_rfl) rfl (wantE rfl rfl hg10_35) ?_
    refine r_call rfl Try.call25 (by simp only [List.map_cons, List.map_nil, List.map_toArray, List.toList_toArray, upd_get, ev, Nat.reduceEqDiff, ↓reduceIte] <;> rfl) (SameBatR_c (rs := (batN ns).rs) (ss := (batN ns).rs) ⟨_, _, ⟨_, _⟩, _, _⟩ ⟨_, _, _, _, _⟩ _ (SH.prop H (i := 4) rfl).1.2.2.2.2.2.2 (SH.rsO H (i := 5) rfl)) ?_
    rintro _ w10_42 ⟨rfl, X⟩
    refine ⟨_, rfl, ?_⟩
    replace H := SH.same H X
    clear X
    refine LW.nil (thenE_norm ⟨fun _ => (SH.sub H (by repeat first | exact List.Sublist.refl _ | exact List.nil_sublist _ | apply List.Sublist.cons_cons | apply List.Sublist.cons)), ?_⟩)
    refine DL.take (i := 43) [] rfl (by kernel_rfl) (by kernel_rfl) (by kernel_rfl) (by kernel_rfl) rfl rfl (fun u H => x_pickT rfl hg10_35) (SH.sub H (by repeat first | exact List.Sublist.refl _ | exact List.nil_sublist _ | apply List.Sublist.cons_cons | apply List.Sublist.cons)) ?_
    refine DL.take (i := 44) [] rfl (by kernel_rfl) (by kernel_rfl) (by kernel_rfl) (by kernel_rfl) rfl rfl (fun u H => x_move ) (SH.sub H (by repeat first | exact List.Sublist.refl _ | exact List.nil_sublist _ | apply List.Sublist.cons_cons | apply List.Sublist.cons)) ?_
    refine DL.known (t := 110) (c := true) rfl (by exact hsame) (fun hg10_44 => ?_)
    refine DL.one (i := 45) (by kernel_rfl) rfl (wantE rfl rfl hg10_44) ?_
    refine r_call rfl Try.call32 (by simp only [List.map_cons, List.map_nil, List.map_toArray, List.toList_toArray, upd_get, ev, Nat.reduceEqDiff, ↓reduceIte] <;> rfl) (awake14_c _) ?_
    rintro _ w10_45 ⟨rfl, X⟩
    refine ⟨_, rfl, ?_⟩
    replace H := SH.same H X
    clear X
    refine LW.nil (thenE_norm ⟨fun _ => (SH.sub H (by repeat first | exact List.Sublist.refl _ | exact List.nil_sublist _ | apply List.Sublist.cons_cons | apply List.Sublist.cons)), ?_⟩)
    refine DL.take (i := 46) [] rfl (by kernel_rfl) (by kernel_rfl) (by kernel_rfl) (by kernel_rfl) rfl rfl (fun u H => x_pickT rfl hg10_44) (SH.sub H (by repeat first | exact List.Sublist.refl _ | exact List.nil_sublist _ | apply List.Sublist.cons_cons | apply List.Sublist.cons)) ?_
    refine DL.take (i := 47) [] rfl (by kernel_rfl) (by kernel_rfl) (by kernel_rfl) (by kernel_rfl) rfl rfl (fun u H => x_assign ) (SH.sub H (by repeat first | exact List.Sublist.refl _ | exact List.nil_sublist _ | apply List.Sublist.cons_cons | apply List.Sublist.cons)) ?_
    refine DL.done (by kernel_rfl) ?_
    refine thenE_norm ?_
    refine cut (K := K15) [8] (fun σ => ?_)
    simp only [setL, keepE, upd_get, ev, Nat.reduceEqDiff, ↓reduceIte]
    refine h15 _ _ ?_; clear h15; try clear K15
    refine CW.ret (ret1 Try.results6 (by simp only [upd_get, ev, Nat.reduceEqDiff, ↓reduceIte]; rfl) ?_)
    exact ⟨rfl, H.ext⟩
end Go.Proofs.Ytalieccfdmokmaa
