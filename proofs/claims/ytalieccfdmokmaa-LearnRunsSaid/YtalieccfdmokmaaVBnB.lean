/-
  The walks of layer 12's functions, as the document has them: may a batch be, are two the same.
-/
import Derived.Test.YtalieccfdmokmaaVBnA
namespace Go.Proofs.Ytalieccfdmokmaa
set_option linter.unusedSimpArgs false
set_option linter.unusedVariables false
set_option maxRecDepth 20000
open Go.V Go.RowKit Go.ChangeShapes Go.WideShapes

theorem any_snocC {rs : List Rq} {x y : Rq} {k : Nat} (hy : rs[k]? = some y) (h : (rs.take k).any (sameC x) = false) (hc : ¬ y.client = x.client) : (rs.take (k + 1)).any (sameC x) = false := any_snoc hy h (by rw [sameC]; exact decide_eq_false hc)
set_option maxHeartbeats 4000000 in
theorem reqs_c {F : Nat → Prop} {v : Value} {rs : List Rq} (w : World) (hv : Rs F w v rs) :
    Calls Try.prog 91 #[v] w fun e w' => e = .returned (.bool (decide (rs.length ≤ 3) && mayQ rs)) ∧ Ext0 w w' := by
  have H := (SH.start w).arg hv
  have h63 := hv.len63
  refine calls_of_CW Try.func91 rfl Try.ntmps91 (Nat.le_of_ble_eq_true rfl) ?_
  simp only [argE, argFrom, Nat.reduceAdd]
  refine CW.seq (fun K1 h1 => ?_)
  refine CW.region ?_
  refine r_assign rfl ?_
  refine LW.nil ?_
  refine thenE_norm (h1 _ _ ?_); clear h1; try clear K1
  refine CW.seq (fun K2 h2 => ?_)
  refine CW.seq (fun K3 h3 => ?_)
  refine CW.region ?_
  refine r_move rfl ?_
  first
    | refine r_lenV rfl Try.underlying25 (by simp only [upd_get, ev, Nat.reduceEqDiff, ↓reduceIte] <;> rfl) (by first | assumption | exact SH.rsR H (by (repeat first | exact At.here | apply At.there); done) | exact SH.rsO H (by (repeat first | exact At.here | apply At.there); done) | exact (Rs.nil : Rs Non _ _ _)) ?_
    | refine r_len rfl Try.underlying25 rfl ?_
  refine r_gtr rfl rfl rfl ?_
  refine LW.nil ?_
  refine thenE_norm (h3 _ _ ?_); clear h3; try clear K3
  refine CW.cond rfl (fun hc1 => ?_) (fun hc1 => ?_)
  · try simp only [decide_eq_true_eq, decide_eq_false_iff_not, Bool.and_eq_true, Bool.or_eq_true, Bool.and_eq_false_iff, Bool.or_eq_false_iff, Bool.not_eq_true', Bool.not_eq_false', beq_iff_eq, bne_iff_ne, ne_eq, Decidable.not_not] at hc1
    refine CW.seq (fun K4 h4 => ?_)
    refine CW.region ?_
    refine r_assign rfl ?_
    refine LW.nil ?_
    refine thenE_norm (h4 _ _ ?_); clear h4; try clear K4
    refine CW.ret (thenE_ret (ret1 Try.results91 (by simp only [upd_get, ev, Nat.reduceEqDiff, ↓reduceIte]; rfl) ?_))
    rw [decide_eq_false (show ¬ rs.length ≤ 3 by omega)]
    exact ⟨rfl, H.ext⟩
  · try simp only [decide_eq_true_eq, decide_eq_false_iff_not, Bool.and_eq_true, Bool.or_eq_true, Bool.and_eq_false_iff, Bool.or_eq_false_iff, Bool.not_eq_true', Bool.not_eq_false', beq_iff_eq, bne_iff_ne, ne_eq, Decidable.not_not] at hc1
    refine CW.skip ?_
    refine thenE_norm (h2 _ _ ?_); clear h2; try clear K2
    refine CW.seq (fun K5 h5 => ?_)
    refine CW.seq (fun K6 h6 => ?_)
    refine CW.region ?_
    refine r_assign rfl ?_
    refine LW.nil ?_
    refine thenE_norm (h6 _ _ ?_); clear h6; try clear K6
    refine CW.block ?_
    refine CW.loopR [0] [3] (fun m vs w' => ∃ i : Nat, vs = [.int .i64 i] ∧ i ≤ rs.length ∧ m = rs.length - i ∧ preQ rs i = true ∧ SH Non Any w w' [.R (Old w) v rs]) (rs.length) ?_ ?_
    · exact ⟨0, rfl, by omega, by omega, rfl, H⟩
    try clear H
    rintro n1 vs1 wL1 σ ⟨i, rfl, hi, rfl, hok, H⟩
    simp only [setL, keepE, upd_get, ev, Nat.reduceEqDiff, ↓reduceIte]
    refine CW.seq (fun K7 h7 => ?_)
    refine CW.seq (fun K8 h8 => ?_)
    refine CW.region ?_
    refine r_move rfl ?_
    refine r_move rfl ?_
    first
      | refine r_lenV rfl Try.underlying25 (by simp only [upd_get, ev, Nat.reduceEqDiff, ↓reduceIte] <;> rfl) (by first | assumption | exact SH.rsR H (by (repeat first | exact At.here | apply At.there); done) | exact SH.rsO H (by (repeat first | exact At.here | apply At.there); done) | exact (Rs.nil : Rs Non _ _ _)) ?_
      | refine r_len rfl Try.underlying25 rfl ?_
    refine r_lss rfl rfl rfl ?_
    refine LW.nil ?_
    refine thenE_norm (h8 _ _ ?_); clear h8; try clear K8
    refine CW.cond rfl (fun hc2 => ?_) (fun hc2 => ?_)
    · try simp only [decide_eq_true_eq, decide_eq_false_iff_not, Bool.and_eq_true, Bool.or_eq_true, Bool.and_eq_false_iff, Bool.or_eq_false_iff, Bool.not_eq_true', Bool.not_eq_false', beq_iff_eq, bne_iff_ne, ne_eq, Decidable.not_not] at hc2
      refine CW.skip ?_
      refine thenE_norm (h7 _ _ ?_); clear h7; try clear K7
      refine CW.seq (fun K9 h9 => ?_)
      refine CW.block ?_
      refine CW.seq (fun K10 h10 => ?_)
      refine CW.seq (fun K11 h11 => ?_)
      obtain ⟨x, hx⟩ := get_of_lt (show i < rs.length by omega)
      have hce := chkQ_eq hx
      have hil := lt_of_get hx
      obtain ⟨x1, x2, x3, x4, x5⟩ := x
      refine CW.region ?_
      refine r_move rfl ?_
      refine r_move rfl ?_
      refine r_indexAddrV rfl Try.underlying25 (by simp only [upd_get, ev, Nat.reduceEqDiff, ↓reduceIte] <;> rfl) rfl (by first | assumption | exact SH.rsR H (by (repeat first | exact At.here | apply At.there); done) | exact SH.rsO H (by (repeat first | exact At.here | apply At.there); done) | exact (Rs.nil : Rs Non _ _ _)) (by exact Try.sizeOf32) (by omega) (by omega) ?_
      refine r_loadA rfl Try.isAgg32 Try.sizeOf32 rfl (by first | exact Rs.cells0 (by first | assumption | exact SH.rsR H (by (repeat first | exact At.here | apply At.there); done) | exact SH.rsO H (by (repeat first | exact At.here | apply At.there); done) | exact (Rs.nil : Rs Non _ _ _)) (by assumption)) (by rfl) ?_
      refine r_call rfl Try.call110 (by simp only [List.map_cons, List.map_nil, List.map_toArray, List.toList_toArray, upd_get, ev, Nat.reduceEqDiff, ↓reduceIte] <;> rfl) (MayRqR_c ⟨_, _, ⟨_, _, _⟩⟩ _) ?_
      rintro _ w6_4 ⟨rfl, X⟩
      refine ⟨_, rfl, ?_⟩
      replace H := SH.same H X
      clear X
      refine r_not rfl rfl ?_
      refine LW.nil ?_
      refine thenE_norm ?_
      refine cut (K := K11) [0, 3, 19] (fun σ => ?_)
      simp only [setL, keepE, upd_get, ev, Nat.reduceEqDiff, ↓reduceIte]
      refine h11 _ _ ?_; clear h11; try clear K11
      refine CW.cond rfl (fun hc3 => ?_) (fun hc3 => ?_)
      · try simp only [decide_eq_true_eq, decide_eq_false_iff_not, Bool.and_eq_true, Bool.or_eq_true, Bool.and_eq_false_iff, Bool.or_eq_false_iff, Bool.not_eq_true', Bool.not_eq_false', beq_iff_eq, bne_iff_ne, ne_eq, Decidable.not_not] at hc3
        refine CW.seq (fun K12 h12 => ?_)
        refine CW.region ?_
        refine r_assign rfl ?_
        refine LW.nil ?_
        refine thenE_norm (h12 _ _ ?_); clear h12; try clear K12
        refine CW.ret (thenE_ret (blockE_ret (thenE_ret (thenE_ret (blockE_ret (thenE_ret (ret1 Try.results91 (by simp only [upd_get, ev, Nat.reduceEqDiff, ↓reduceIte]; rfl) ?_)))))))
        have hno : mayQ rs = false := preQ_not hil (by
          rw [hce, show mayRq ⟨x1, x2, x3, x4, x5⟩ = false by simpa using hc3]; rfl)
        rw [hno, Bool.and_false]
        exact ⟨rfl, H.ext⟩
      · try simp only [decide_eq_true_eq, decide_eq_false_iff_not, Bool.and_eq_true, Bool.or_eq_true, Bool.and_eq_false_iff, Bool.or_eq_false_iff, Bool.not_eq_true', Bool.not_eq_false', beq_iff_eq, bne_iff_ne, ne_eq, Decidable.not_not] at hc3
        refine CW.skip ?_
        refine thenE_norm (h10 _ _ ?_); clear h10; try clear K10
        refine CW.seq (fun K13 h13 => ?_)
        refine CW.region ?_
        refine r_assign rfl ?_
        refine LW.nil ?_
        refine thenE_norm (h13 _ _ ?_); clear h13; try clear K13
        refine CW.block ?_
        refine CW.loopR [0, 3] [4] (fun m vs w' => ∃ k : Nat, vs = [.int .i64 k] ∧ k ≤ i ∧ m = i - k ∧ (rs.take k).any (sameC ⟨x1, x2, x3, x4, x5⟩) = false ∧ SH Non Any w w' [.R (Old w) v rs]) (i) ?_ ?_
        · exact ⟨0, rfl, by omega, by omega, rfl, H⟩
        try clear H
        rintro n2 vs2 wL2 σ ⟨k, rfl, hk, rfl, hno, H⟩
        simp only [setL, keepE, upd_get, ev, Nat.reduceEqDiff, ↓reduceIte]
        refine CW.seq (fun K14 h14 => ?_)
        refine CW.seq (fun K15 h15 => ?_)
        refine CW.region ?_
        refine r_move rfl ?_
        refine r_move rfl ?_
        refine r_lss rfl rfl rfl ?_
        refine LW.nil ?_
        refine thenE_norm (h15 _ _ ?_); clear h15; try clear K15
        refine CW.cond rfl (fun hc4 => ?_) (fun hc4 => ?_)
        · try simp only [decide_eq_true_eq, decide_eq_false_iff_not, Bool.and_eq_true, Bool.or_eq_true, Bool.and_eq_false_iff, Bool.or_eq_false_iff, Bool.not_eq_true', Bool.not_eq_false', beq_iff_eq, bne_iff_ne, ne_eq, Decidable.not_not] at hc4
          refine CW.skip ?_
          refine thenE_norm (h14 _ _ ?_); clear h14; try clear K14
          refine CW.seq (fun K16 h16 => ?_)
          refine CW.block ?_
          refine CW.seq (fun K17 h17 => ?_)
          obtain ⟨y, hy⟩ := get_of_lt (show k < rs.length by omega)
          refine CW.drawH [] H (List.Sublist.refl _) (by kernel_rfl) rfl ?_
          clear H
          intro w11d H
          refine DL.take (i := 0) [] rfl (by kernel_rfl) (by kernel_rfl) (by kernel_rfl) (by kernel_rfl) rfl rfl (fun u H => x_move ) H ?_
          refine DL.take (i := 1) [] rfl (by kernel_rfl) (by kernel_rfl) (by kernel_rfl) (by kernel_rfl) rfl rfl (fun u H => x_move ) H ?_
          refine DL.take (i := 2) [] rfl (by kernel_rfl) (by kernel_rfl) (by kernel_rfl) (by kernel_rfl) rfl rfl (fun u H => x_indexAddrV Try.underlying25 (by simp only [upd_get, ev, Nat.reduceEqDiff, ↓reduceIte] <;> rfl) rfl (by first | assumption | exact SH.rsR H (by (repeat first | exact At.here | apply At.there); done) | exact SH.rsO H (by (repeat first | exact At.here | apply At.there); done) | exact (Rs.nil : Rs Non _ _ _)) (by exact Try.sizeOf32) (by omega) (by omega)) H ?_
          refine DL.take (i := 3) [] rfl (by kernel_rfl) (by kernel_rfl) (by kernel_rfl) (by kernel_rfl) rfl rfl (fun u H => x_fieldAddrO Try.underlying32 rfl Try.sizeOf3 (by decide) (show _ + 0 = _ from rfl) rfl) H ?_
          refine DL.take (i := 4) [] rfl (by kernel_rfl) (by kernel_rfl) (by kernel_rfl) (by kernel_rfl) rfl rfl (fun u H => x_load Try.isAgg3 rfl (by first | exact Rs.cell (by first | assumption | exact SH.rsR H (by (repeat first | exact At.here | apply At.there); done) | exact SH.rsO H (by (repeat first | exact At.here | apply At.there); done) | exact (Rs.nil : Rs Non _ _ _)) (by assumption) (by rfl) | exact Rs.cell0 (by first | assumption | exact SH.rsR H (by (repeat first | exact At.here | apply At.there); done) | exact SH.rsO H (by (repeat first | exact At.here | apply At.there); done) | exact (Rs.nil : Rs Non _ _ _)) (by assumption) (by rfl) | assumption)) H ?_
          refine DL.take (i := 5) [] rfl (by kernel_rfl) (by kernel_rfl) (by kernel_rfl) (by kernel_rfl) rfl rfl (fun u H => x_move ) H ?_
          refine DL.take (i := 6) [] rfl (by kernel_rfl) (by kernel_rfl) (by kernel_rfl) (by kernel_rfl) rfl rfl (fun u H => x_move ) H ?_
          refine DL.take (i := 7) [] rfl (by kernel_rfl) (by kernel_rfl) (by kernel_rfl) (by kernel_rfl) rfl rfl (fun u H => x_indexAddrV Try.underlying25 (by simp only [upd_get, ev, Nat.reduceEqDiff, ↓reduceIte] <;> rfl) rfl (by first | assumption | exact SH.rsR H (by (repeat first | exact At.here | apply At.there); done) | exact SH.rsO H (by (repeat first | exact At.here | apply At.there); done) | exact (Rs.nil : Rs Non _ _ _)) (by exact Try.sizeOf32) (by omega) (by omega)) H ?_
          refine DL.take (i := 8) [] rfl (by kernel_rfl) (by kernel_rfl) (by kernel_rfl) (by kernel_rfl) rfl rfl (fun u H => x_fieldAddrO Try.underlying32 rfl Try.sizeOf3 (by decide) (show _ + 0 = _ from rfl) rfl) H ?_
          refine DL.take (i := 9) [] rfl (by kernel_rfl) (by kernel_rfl) (by kernel_rfl) (by kernel_rfl) rfl rfl (fun u H => x_load Try.isAgg3 rfl (by first | exact Rs.cell (by first | assumption | exact SH.rsR H (by (repeat first | exact At.here | apply At.there); done) | exact SH.rsO H (by (repeat first | exact At.here | apply At.there); done) | exact (Rs.nil : Rs Non _ _ _)) (by assumption) (by rfl) | exact Rs.cell0 (by first | assumption | exact SH.rsR H (by (repeat first | exact At.here | apply At.there); done) | exact SH.rsO H (by (repeat first | exact At.here | apply At.there); done) | exact (Rs.nil : Rs Non _ _ _)) (by assumption) (by rfl) | assumption)) H ?_
          refine DL.take (i := 10) [] rfl (by kernel_rfl) (by kernel_rfl) (by kernel_rfl) (by kernel_rfl) rfl rfl (fun u H => x_eql rfl rfl) H ?_
          refine DL.done (by kernel_rfl) ?_
          refine thenE_norm ?_
          refine cut (K := K17) [0, 3, 4, 35] (fun σ => ?_)
          simp only [setL, keepE, upd_get, ev, Nat.reduceEqDiff, ↓reduceIte]
          refine h17 _ _ ?_; clear h17; try clear K17
          refine CW.cond rfl (fun hc5 => ?_) (fun hc5 => ?_)
          · try simp only [decide_eq_true_eq, decide_eq_false_iff_not, Bool.and_eq_true, Bool.or_eq_true, Bool.and_eq_false_iff, Bool.or_eq_false_iff, Bool.not_eq_true', Bool.not_eq_false', beq_iff_eq, bne_iff_ne, ne_eq, Decidable.not_not] at hc5
            refine CW.seq (fun K18 h18 => ?_)
            refine CW.region ?_
            refine r_assign rfl ?_
            refine LW.nil ?_
            refine thenE_norm (h18 _ _ ?_); clear h18; try clear K18
            refine CW.ret (blockE_ret (thenE_ret (thenE_ret (blockE_ret (blockE_ret (thenE_ret (thenE_ret (blockE_ret (thenE_ret (ret1 Try.results91 (by simp only [upd_get, ev, Nat.reduceEqDiff, ↓reduceIte]; rfl) ?_))))))))))
            have hany : (rs.take i).any (sameC ⟨x1, x2, x3, x4, x5⟩) = true := List.any_eq_true.2 ⟨y, List.mem_iff_getElem?.2 ⟨k, by rw [List.getElem?_take, if_pos (by omega)]; exact hy⟩, by rw [sameC]; exact decide_eq_true hc5⟩
            have hno2 : mayQ rs = false := preQ_not hil (by rw [hce, hany]; simp)
            rw [hno2, Bool.and_false]
            exact ⟨rfl, H.ext⟩
          · try simp only [decide_eq_true_eq, decide_eq_false_iff_not, Bool.and_eq_true, Bool.or_eq_true, Bool.and_eq_false_iff, Bool.or_eq_false_iff, Bool.not_eq_true', Bool.not_eq_false', beq_iff_eq, bne_iff_ne, ne_eq, Decidable.not_not] at hc5
            refine CW.skip ?_
            refine blockE_norm ?_
            refine thenE_norm (h16 _ _ ?_); clear h16; try clear K16
            refine CW.region ?_
            refine r_move rfl ?_
            refine r_add rfl rfl rfl (wr_i64 (by omega) (by omega)) ?_
            refine r_assign rfl ?_
            refine LW.nil ?_
            refine thenE_norm ⟨rfl, ?_⟩
            exact ⟨_, by omega, k + 1, rfl, by omega, rfl, any_snocC hy hno hc5, H⟩
        · try simp only [decide_eq_true_eq, decide_eq_false_iff_not, Bool.and_eq_true, Bool.or_eq_true, Bool.and_eq_false_iff, Bool.or_eq_false_iff, Bool.not_eq_true', Bool.not_eq_false', beq_iff_eq, bne_iff_ne, ne_eq, Decidable.not_not] at hc4
          refine CW.exit (thenE_exit (thenE_exit (blockE_hit ?_)))
          refine blockE_norm ?_
          refine thenE_norm (h9 _ _ ?_); clear h9; try clear K9
          refine CW.region ?_
          refine r_move rfl ?_
          refine r_add rfl rfl rfl (wr_i64 (by omega) (by omega)) ?_
          refine r_assign rfl ?_
          refine LW.nil ?_
          refine thenE_norm ⟨rfl, ?_⟩
          obtain rfl : k = i := by omega
          exact ⟨_, by omega, k + 1, rfl, by omega, rfl, by rw [preQ_succ, hok, hce, Bool.true_and, show mayRq ⟨x1, x2, x3, x4, x5⟩ = true by simpa using hc3, hno]; rfl, H⟩
    · try simp only [decide_eq_true_eq, decide_eq_false_iff_not, Bool.and_eq_true, Bool.or_eq_true, Bool.and_eq_false_iff, Bool.or_eq_false_iff, Bool.not_eq_true', Bool.not_eq_false', beq_iff_eq, bne_iff_ne, ne_eq, Decidable.not_not] at hc2
      refine CW.exit (thenE_exit (thenE_exit (blockE_hit ?_)))
      refine thenE_norm (h5 _ _ ?_); clear h5; try clear K5
      refine CW.seq (fun K19 h19 => ?_)
      refine CW.region ?_
      refine r_assign rfl ?_
      refine LW.nil ?_
      refine thenE_norm (h19 _ _ ?_); clear h19; try clear K19
      refine CW.ret (ret1 Try.results91 (by simp only [upd_get, ev, Nat.reduceEqDiff, ↓reduceIte]; rfl) ?_)
      obtain rfl : i = rs.length := by omega
      rw [decide_eq_true (show rs.length ≤ 3 by omega), mayQ, hok]
      exact ⟨rfl, H.ext⟩
set_option maxHeartbeats 4000000 in
theorem MayBatR_c {F : Nat → Prop} (b : Bat) {rs : List Rq} (w : World) (hv : Rs F w b.reqs rs) :
    Calls Try.prog 45 #[agg b] w fun e w' => e = .returned (.bool (mayBat b.fill b.view b.tip b.time rs)) ∧ Ext0 w w' := by
  obtain ⟨bf, bv, ⟨tv, ts⟩, bm, bq⟩ := b
  dsimp only at hv ⊢
  have H := (SH.start w).arg hv
  refine calls_of_CW Try.func45 rfl Try.ntmps45 (Nat.le_of_ble_eq_true rfl) ?_
  simp only [argE, argFrom, Nat.reduceAdd]
  refine CW.seq (fun K1 h1 => ?_)
  refine CW.region ?_
  refine s_box H rfl (by simp only [upd_get, ev, Nat.reduceEqDiff, ↓reduceIte] <;> rfl) rfl ?_
  clear H
  intro b0_0 w0_0 H
  try dsimp only [replC, List.cons_append, List.nil_append, List.append_nil, agg, cellsL, Value.cells, List.toList_toArray, List.set_cons_zero, List.set_cons_succ, spliceL, List.take_succ_cons, List.take_zero, List.drop_succ_cons, List.drop_zero, List.length_cons, List.length_nil, Nat.reduceAdd, Row.cells, Cm.L, Rq.L, Tp.L, Bat.L] at H
  refine r_assign rfl ?_
  refine LW.nil ?_
  refine thenE_norm (h1 _ _ ?_); clear h1; try clear K1
  refine CW.seq (fun K2 h2 => ?_)
  refine CW.seq (fun K3 h3 => ?_)
  refine CW.region ?_
  refine r_fieldAddrO rfl Try.underlying27 rfl Try.sizeOf4 (by decide) (show _ = 0 from rfl) rfl ?_
  refine r_load rfl Try.isAgg4 rfl (by first | exact SH.cellB H (by (repeat first | exact At.here | apply At.there); done) (by rfl) | assumption) ?_
  refine LW.nil ?_
  refine thenE_norm (h3 _ _ ?_); clear h3; try clear K3
  refine CW.cond rfl (fun hc1 => ?_) (fun hc1 => ?_)
  · try simp only [decide_eq_true_eq, decide_eq_false_iff_not, Bool.and_eq_true, Bool.or_eq_true, Bool.and_eq_false_iff, Bool.or_eq_false_iff, Bool.not_eq_true', Bool.not_eq_false', beq_iff_eq, bne_iff_ne, ne_eq, Decidable.not_not] at hc1
    refine CW.seq (fun K4 h4 => ?_)
    refine CW.region ?_
    refine r_fieldAddrO rfl Try.underlying27 rfl Try.sizeOf3 (by decide) (show _ = 1 from rfl) rfl ?_
    refine r_load rfl Try.isAgg3 rfl (by first | exact SH.cellB H (by (repeat first | exact At.here | apply At.there); done) (by rfl) | assumption) ?_
    refine r_eql rfl rfl rfl ?_
    refine r_move rfl ?_
    refine' LW.grpAnd (n := 5) (ts := [1, 14, 19]) (d := 13) (tj := 8) rfl (fun hg2_4 => ?_) (fun hg2_4 => ?_) (fun σ => ?_)
    rotate_left
    · simp only [List.take_succ_cons, List.take_zero]
      have hg2_4P := hg2_4
      try simp only [decide_eq_true_eq, decide_eq_false_iff_not, Bool.and_eq_true, Bool.or_eq_true, Bool.and_eq_false_iff, Bool.or_eq_false_iff, Bool.not_eq_true', Bool.not_eq_false', beq_iff_eq, bne_iff_ne] at hg2_4P
      refine LW.want rfl rfl hg2_4 ?_
      refine r_fieldAddrO rfl Try.underlying27 rfl Try.sizeOf24 (by decide) (show _ = 2 from rfl) rfl ?_
      refine LW.want rfl rfl hg2_4 ?_
      refine r_loadA rfl Try.isAgg24 Try.sizeOf24 rfl (by first | exact SH.partOf (n := 2) H (by (repeat first | exact At.here | apply At.there); done) (by simp only [Row.cells, List.drop_succ_cons, List.drop_zero, List.take_succ_cons, List.take_zero, Cm.L, Rq.L, Tp.L, Bat.L] <;> rfl) | exact SH.cells H (by (repeat first | exact At.here | apply At.there); done)) (by rfl) ?_
      refine LW.want rfl rfl hg2_4 ?_
      refine r_buildQ rfl Try.underlying24 Try.zeroValue24 rfl (pl := [(0, 1), (1, 1)]) (by intro w; simp [go_sem]) (qs := []) (cs := [.int .i64 0, .int .i64 0]) trivial rfl ?_
      refine LW.want rfl rfl hg2_4 ?_
      refine r_eqlG rfl (by kernel_rfl) rfl rfl (EqA.struct Try.underlying24 (by kernel_rfl) (EqF.one rfl Try.isAgg3 rfl rfl (EqA.int Try.underlying3) (EqF.one rfl Try.isAgg3 rfl rfl (EqA.int Try.underlying3) EqF.nil))) ?_
      refine r_pickT rfl rfl hg2_4 ?_
      refine LW.nil (thenE_norm ⟨rfl, rfl, rfl⟩)
    · simp only [List.take_succ_cons, List.take_zero]
      refine LW.skip rfl (fun _ e => by cases e; decide) rfl hg2_4 ?_
      refine LW.skip rfl (fun _ e => by cases e; decide) rfl hg2_4 ?_
      refine LW.skip rfl (fun _ e => by cases e; decide) rfl hg2_4 ?_
      refine LW.skip rfl (fun _ e => by cases e; decide) rfl hg2_4 ?_
      refine r_pickF rfl rfl hg2_4 ?_
      refine LW.nil (thenE_norm ⟨rfl, rfl, rfl⟩)
    simp only [setL, keepE, upd_get, ev, Nat.reduceEqDiff, ↓reduceIte]; simp only [List.drop_succ_cons, List.drop_zero]
    refine r_move rfl ?_
    refine' LW.grpAnd (n := 4) (ts := [1, 19]) (d := 18) (tj := 14) rfl (fun hg2_10 => ?_) (fun hg2_10 => ?_) (fun σ => ?_)
    rotate_left
    · simp only [List.take_succ_cons, List.take_zero]
      have hg2_10P := hg2_10
      try simp only [decide_eq_true_eq, decide_eq_false_iff_not, Bool.and_eq_true, Bool.or_eq_true, Bool.and_eq_false_iff, Bool.or_eq_false_iff, Bool.not_eq_true', Bool.not_eq_false', beq_iff_eq, bne_iff_ne] at hg2_10P
      refine LW.want rfl rfl hg2_10 ?_
      refine r_fieldAddrO rfl Try.underlying27 rfl Try.sizeOf3 (by decide) (show _ = 4 from rfl) rfl ?_
      refine LW.want rfl rfl hg2_10 ?_
      refine r_load rfl Try.isAgg3 rfl (by first | exact SH.cellB H (by (repeat first | exact At.here | apply At.there); done) (by rfl) | assumption) ?_
      refine LW.want rfl rfl hg2_10 ?_
      refine r_eql rfl rfl rfl ?_
      refine r_pickT rfl rfl hg2_10 ?_
      refine LW.nil (thenE_norm ⟨rfl, rfl, rfl⟩)
    · simp only [List.take_succ_cons, List.take_zero]
      refine LW.skip rfl (fun _ e => by cases e; decide) rfl hg2_10 ?_
      refine LW.skip rfl (fun _ e => by cases e; decide) rfl hg2_10 ?_
      refine LW.skip rfl (fun _ e => by cases e; decide) rfl hg2_10 ?_
      refine r_pickF rfl rfl hg2_10 ?_
      refine LW.nil (thenE_norm ⟨rfl, rfl, rfl⟩)
    simp only [setL, keepE, upd_get, ev, Nat.reduceEqDiff, ↓reduceIte]; simp only [List.drop_succ_cons, List.drop_zero]
    refine r_move rfl ?_
    refine' LW.grpAnd (n := 5) (ts := []) (d := 24) (tj := 19) rfl (fun hg2_15 => ?_) (fun hg2_15 => ?_) (fun σ => ?_)
    rotate_left
    · simp only [List.take_succ_cons, List.take_zero]
      have hg2_15P := hg2_15
      try simp only [decide_eq_true_eq, decide_eq_false_iff_not, Bool.and_eq_true, Bool.or_eq_true, Bool.and_eq_false_iff, Bool.or_eq_false_iff, Bool.not_eq_true', Bool.not_eq_false', beq_iff_eq, bne_iff_ne] at hg2_15P
      refine LW.want rfl rfl hg2_15 ?_
      refine r_fieldAddrO rfl Try.underlying27 rfl Try.sizeOf25 (by decide) (show _ = 5 from rfl) rfl ?_
      refine LW.want rfl rfl hg2_15 ?_
      refine r_load rfl Try.isAgg25 rfl (by first | exact SH.cellB H (by (repeat first | exact At.here | apply At.there); done) (by rfl) | assumption) ?_
      refine LW.want rfl rfl hg2_15 ?_
      first
        | refine r_lenV rfl Try.underlying25 (by simp only [upd_get, ev, Nat.reduceEqDiff, ↓reduceIte] <;> rfl) (by first | assumption | exact SH.rsR H (by (repeat first | exact At.here | apply At.there); done) | exact SH.rsO H (by (repeat first | exact At.here | apply At.there); done) | exact (Rs.nil : Rs Non _ _ _)) ?_
        | refine r_len rfl Try.underlying25 rfl ?_
      refine LW.want rfl rfl hg2_15 ?_
      refine r_eql rfl rfl rfl ?_
      refine r_pickT rfl rfl hg2_15 ?_
      refine LW.nil (thenE_norm ⟨rfl, rfl, rfl⟩)
    · simp only [List.take_succ_cons, List.take_zero]
      refine LW.skip rfl (fun _ e => by cases e; decide) rfl hg2_15 ?_
      refine LW.skip rfl (fun _ e => by cases e; decide) rfl hg2_15 ?_
      refine LW.skip rfl (fun _ e => by cases e; decide) rfl hg2_15 ?_
      refine LW.skip rfl (fun _ e => by cases e; decide) rfl hg2_15 ?_
      refine r_pickF rfl rfl hg2_15 ?_
      refine LW.nil (thenE_norm ⟨rfl, rfl, rfl⟩)
    simp only [setL, keepE, upd_get, ev, Nat.reduceEqDiff, ↓reduceIte]; simp only [List.drop_succ_cons, List.drop_zero]
    refine r_assign rfl ?_
    refine LW.nil ?_
    refine thenE_norm (h4 _ _ ?_); clear h4; try clear K4
    refine CW.ret (thenE_ret (ret1 Try.results45 (by simp only [upd_get, ev, Nat.reduceEqDiff, ↓reduceIte]; rfl) ?_))
    rw [mayBat, if_pos hc1]
    refine ⟨?_, H.ext⟩
    congr 2
    rw [Bool.eq_iff_iff]
    simp [and_assoc]
    intro _
    constructor
    · rintro ⟨h2, h3, h4, h5⟩; exact ⟨h4, h2, h3, h5⟩
    · rintro ⟨h2, h3, h4, h5⟩; exact ⟨h3, h4, h2, h5⟩
  · try simp only [decide_eq_true_eq, decide_eq_false_iff_not, Bool.and_eq_true, Bool.or_eq_true, Bool.and_eq_false_iff, Bool.or_eq_false_iff, Bool.not_eq_true', Bool.not_eq_false', beq_iff_eq, bne_iff_ne, ne_eq, Decidable.not_not] at hc1
    have hf : ¬ bf = true := by simpa using hc1
    have hb : mayBat bf bv ⟨tv, ts⟩ bm rs = ((highM bv 0 && highM bm 0) && (highM tv 0 && highM ts 0) && (decide (rs.length ≤ 3) && mayQ rs)) := by
      rw [mayBat, if_neg hf]; simp only [Bool.and_assoc]
    refine CW.skip ?_
    refine thenE_norm (h2 _ _ ?_); clear h2; try clear K2
    refine CW.seq (fun K5 h5 => ?_)
    refine CW.region ?_
    refine r_fieldAddrO rfl Try.underlying27 rfl Try.sizeOf3 (by decide) (show _ = 1 from rfl) rfl ?_
    refine r_load rfl Try.isAgg3 rfl (by first | exact SH.cellB H (by (repeat first | exact At.here | apply At.there); done) (by rfl) | assumption) ?_
    refine r_call rfl Try.call79 (by simp only [List.map_cons, List.map_nil, List.map_toArray, List.toList_toArray, upd_get, ev, Nat.reduceEqDiff, ↓reduceIte] <;> rfl) (high12_c _ _ _) ?_
    rintro _ _ ⟨rfl, rfl⟩
    refine ⟨_, rfl, ?_⟩
    refine r_move rfl ?_
    refine' LW.grpAnd (n := 4) (ts := [1, 33, 38]) (d := 32) (tj := 28) rfl (fun hg3_4 => ?_) (fun hg3_4 => ?_) (fun σ => ?_)
    rotate_left
    · simp only [List.take_succ_cons, List.take_zero]
      have hg3_4P := hg3_4
      try simp only [decide_eq_true_eq, decide_eq_false_iff_not, Bool.and_eq_true, Bool.or_eq_true, Bool.and_eq_false_iff, Bool.or_eq_false_iff, Bool.not_eq_true', Bool.not_eq_false', beq_iff_eq, bne_iff_ne] at hg3_4P
      refine LW.want rfl rfl hg3_4 ?_
      refine r_fieldAddrO rfl Try.underlying27 rfl Try.sizeOf3 (by decide) (show _ = 4 from rfl) rfl ?_
      refine LW.want rfl rfl hg3_4 ?_
      refine r_load rfl Try.isAgg3 rfl (by first | exact SH.cellB H (by (repeat first | exact At.here | apply At.there); done) (by rfl) | assumption) ?_
      refine LW.want rfl rfl hg3_4 ?_
      refine r_call rfl Try.call79 (by simp only [List.map_cons, List.map_nil, List.map_toArray, List.toList_toArray, upd_get, ev, Nat.reduceEqDiff, ↓reduceIte] <;> rfl) (high12_c _ _ _) ?_
      rintro _ _ ⟨rfl, rfl⟩
      refine ⟨_, rfl, ?_⟩
      refine r_pickT rfl rfl hg3_4 ?_
      refine LW.nil (thenE_norm ⟨rfl, rfl, rfl⟩)
    · simp only [List.take_succ_cons, List.take_zero]
      refine LW.skip rfl (fun _ e => by cases e; decide) rfl hg3_4 ?_
      refine LW.skip rfl (fun _ e => by cases e; decide) rfl hg3_4 ?_
      refine LW.skip rfl (fun _ e => by cases e; decide) rfl hg3_4 ?_
      refine r_pickF rfl rfl hg3_4 ?_
      refine LW.nil (thenE_norm ⟨rfl, rfl, rfl⟩)
    simp only [setL, keepE, upd_get, ev, Nat.reduceEqDiff, ↓reduceIte]; simp only [List.drop_succ_cons, List.drop_zero]
    refine r_move rfl ?_
    refine LW.splitB (t := 33) rfl (fun hg3_9 => ?_) (fun hg3_9 => ?_)
    · have hg3_9P := hg3_9
      try simp only [decide_eq_true_eq, decide_eq_false_iff_not, Bool.and_eq_true, Bool.or_eq_true, Bool.and_eq_false_iff, Bool.or_eq_false_iff, Bool.not_eq_true', Bool.not_eq_false', beq_iff_eq, bne_iff_ne] at hg3_9P
      refine LW.want rfl rfl hg3_9 ?_
      refine r_fieldAddrO rfl Try.underlying27 rfl Try.sizeOf24 (by decide) (show _ = 2 from rfl) rfl ?_
      refine LW.want rfl rfl hg3_9 ?_
      refine r_loadA rfl Try.isAgg24 Try.sizeOf24 rfl (by first | exact SH.partOf (n := 2) H (by (repeat first | exact At.here | apply At.there); done) (by simp only [Row.cells, List.drop_succ_cons, List.drop_zero, List.take_succ_cons, List.take_zero, Cm.L, Rq.L, Tp.L, Bat.L] <;> rfl) | exact SH.cells H (by (repeat first | exact At.here | apply At.there); done)) (by rfl) ?_
      refine LW.want rfl rfl hg3_9 ?_
      refine r_call rfl Try.call90 (by simp only [List.map_cons, List.map_nil, List.map_toArray, List.toList_toArray, upd_get, ev, Nat.reduceEqDiff, ↓reduceIte] <;> rfl) (MayTip_c ⟨_, _⟩ _) ?_
      rintro _ w3_11 ⟨rfl, X⟩
      refine ⟨_, rfl, ?_⟩
      replace H := SH.same H X
      clear X
      refine r_pickT rfl rfl hg3_9 ?_
      refine r_move rfl ?_
      refine LW.splitB (t := 38) rfl (fun hg3_14 => ?_) (fun hg3_14 => ?_)
      · have hg3_14P := hg3_14
        try simp only [decide_eq_true_eq, decide_eq_false_iff_not, Bool.and_eq_true, Bool.or_eq_true, Bool.and_eq_false_iff, Bool.or_eq_false_iff, Bool.not_eq_true', Bool.not_eq_false', beq_iff_eq, bne_iff_ne] at hg3_14P
        refine LW.want rfl rfl hg3_14 ?_
        refine r_fieldAddrO rfl Try.underlying27 rfl Try.sizeOf25 (by decide) (show _ = 5 from rfl) rfl ?_
        refine LW.want rfl rfl hg3_14 ?_
        refine r_load rfl Try.isAgg25 rfl (by first | exact SH.cellB H (by (repeat first | exact At.here | apply At.there); done) (by rfl) | assumption) ?_
        refine LW.want rfl rfl hg3_14 ?_
        refine r_call rfl Try.call91 (by simp only [List.map_cons, List.map_nil, List.map_toArray, List.toList_toArray, upd_get, ev, Nat.reduceEqDiff, ↓reduceIte] <;> rfl) (reqs_c _ (by first | assumption | exact SH.rsR H (by (repeat first | exact At.here | apply At.there); done) | exact SH.rsO H (by (repeat first | exact At.here | apply At.there); done) | exact (Rs.nil : Rs Non _ _ _))) ?_
        rintro _ w3_16 ⟨rfl, X⟩
        refine ⟨_, rfl, ?_⟩
        replace H := SH.same H X
        clear X
        refine r_pickT rfl rfl hg3_14 ?_
        refine r_assign rfl ?_
        refine LW.nil ?_
        refine thenE_norm ?_
        refine cut (K := K5) [2] (fun σ => ?_)
        simp only [setL, keepE, upd_get, ev, Nat.reduceEqDiff, ↓reduceIte]
        refine h5 _ _ ?_; clear h5; try clear K5
        refine CW.ret (ret1 Try.results45 (by simp only [upd_get, ev, Nat.reduceEqDiff, ↓reduceIte]; rfl) ?_)
        first
          | exact Bool.noConfusion hg3_14
          | (rw [hb, hg3_9, hg3_14, Bool.true_and, Bool.true_and]; exact ⟨rfl, H.ext⟩)
          | (rw [hb, hg3_9, hg3_14]; exact ⟨rfl, H.ext⟩)
          | (rw [hb, hg3_9]; exact ⟨rfl, H.ext⟩)
      · have hg3_14P := hg3_14
        try simp only [decide_eq_true_eq, decide_eq_false_iff_not, Bool.and_eq_true, Bool.or_eq_true, Bool.and_eq_false_iff, Bool.or_eq_false_iff, Bool.not_eq_true', Bool.not_eq_false', beq_iff_eq, bne_iff_ne] at hg3_14P
        refine LW.skip rfl (fun _ e => by cases e; decide) rfl hg3_14 ?_
        refine LW.skip rfl (fun _ e => by cases e; decide) rfl hg3_14 ?_
        refine LW.skip rfl (fun _ e => by cases e; decide) rfl hg3_14 ?_
        refine r_pickF rfl rfl hg3_14 ?_
        refine r_assign rfl ?_
        refine LW.nil ?_
        refine thenE_norm ?_
        refine cut (K := K5) [2] (fun σ => ?_)
        simp only [setL, keepE, upd_get, ev, Nat.reduceEqDiff, ↓reduceIte]
        refine h5 _ _ ?_; clear h5; try clear K5
        refine CW.ret (ret1 Try.results45 (by simp only [upd_get, ev, Nat.reduceEqDiff, ↓reduceIte]; rfl) ?_)
        first
          | exact Bool.noConfusion hg3_14
          | (rw [hb, hg3_9, hg3_14, Bool.true_and, Bool.true_and]; exact ⟨rfl, H.ext⟩)
          | (rw [hb, hg3_9, hg3_14]; exact ⟨rfl, H.ext⟩)
          | (rw [hb, hg3_9]; exact ⟨rfl, H.ext⟩)
    · have hg3_9P := hg3_9
      try simp only [decide_eq_true_eq, decide_eq_false_iff_not, Bool.and_eq_true, Bool.or_eq_true, Bool.and_eq_false_iff, Bool.or_eq_false_iff, Bool.not_eq_true', Bool.not_eq_false', beq_iff_eq, bne_iff_ne] at hg3_9P
      refine LW.skip rfl (fun _ e => by cases e; decide) rfl hg3_9 ?_
      refine LW.skip rfl (fun _ e => by cases e; decide) rfl hg3_9 ?_
      refine LW.skip rfl (fun _ e => by cases e; decide) rfl hg3_9 ?_
      refine r_pickF rfl rfl hg3_9 ?_
      refine r_move rfl ?_
      refine LW.splitB (t := 38) rfl (fun hg3_14 => ?_) (fun hg3_14 => ?_)
      · have hg3_14P := hg3_14
        try simp only [decide_eq_true_eq, decide_eq_false_iff_not, Bool.and_eq_true, Bool.or_eq_true, Bool.and_eq_false_iff, Bool.or_eq_false_iff, Bool.not_eq_true', Bool.not_eq_false', beq_iff_eq, bne_iff_ne] at hg3_14P
        refine LW.want rfl rfl hg3_14 ?_
        refine r_fieldAddrO rfl Try.underlying27 rfl Try.sizeOf25 (by decide) (show _ = 5 from rfl) rfl ?_
        refine LW.want rfl rfl hg3_14 ?_
        refine r_load rfl Try.isAgg25 rfl (by first | exact SH.cellB H (by (repeat first | exact At.here | apply At.there); done) (by rfl) | assumption) ?_
        refine LW.want rfl rfl hg3_14 ?_
        refine r_call rfl Try.call91 (by simp only [List.map_cons, List.map_nil, List.map_toArray, List.toList_toArray, upd_get, ev, Nat.reduceEqDiff, ↓reduceIte] <;> rfl) (reqs_c _ (by first | assumption | exact SH.rsR H (by (repeat first | exact At.here | apply At.there); done) | exact SH.rsO H (by (repeat first | exact At.here | apply At.there); done) | exact (Rs.nil : Rs Non _ _ _))) ?_
        rintro _ w3_16 ⟨rfl, X⟩
        refine ⟨_, rfl, ?_⟩
        replace H := SH.same H X
        clear X
        refine r_pickT rfl rfl hg3_14 ?_
        refine r_assign rfl ?_
        refine LW.nil ?_
        refine thenE_norm ?_
        refine cut (K := K5) [2] (fun σ => ?_)
        simp only [setL, keepE, upd_get, ev, Nat.reduceEqDiff, ↓reduceIte]
        refine h5 _ _ ?_; clear h5; try clear K5
        refine CW.ret (ret1 Try.results45 (by simp only [upd_get, ev, Nat.reduceEqDiff, ↓reduceIte]; rfl) ?_)
        first
          | exact Bool.noConfusion hg3_14
          | (rw [hb, hg3_9, hg3_14, Bool.true_and, Bool.true_and]; exact ⟨rfl, H.ext⟩)
          | (rw [hb, hg3_9, hg3_14]; exact ⟨rfl, H.ext⟩)
          | (rw [hb, hg3_9]; exact ⟨rfl, H.ext⟩)
      · have hg3_14P := hg3_14
        try simp only [decide_eq_true_eq, decide_eq_false_iff_not, Bool.and_eq_true, Bool.or_eq_true, Bool.and_eq_false_iff, Bool.or_eq_false_iff, Bool.not_eq_true', Bool.not_eq_false', beq_iff_eq, bne_iff_ne] at hg3_14P
        refine LW.skip rfl (fun _ e => by cases e; decide) rfl hg3_14 ?_
        refine LW.skip rfl (fun _ e => by cases e; decide) rfl hg3_14 ?_
        refine LW.skip rfl (fun _ e => by cases e; decide) rfl hg3_14 ?_
        refine r_pickF rfl rfl hg3_14 ?_
        refine r_assign rfl ?_
        refine LW.nil ?_
        refine thenE_norm (h5 _ _ ?_); clear h5; try clear K5
        refine CW.ret (ret1 Try.results45 (by simp only [upd_get, ev, Nat.reduceEqDiff, ↓reduceIte]; rfl) ?_)
        first
          | exact Bool.noConfusion hg3_14
          | (rw [hb, hg3_9, hg3_14, Bool.true_and, Bool.true_and]; exact ⟨rfl, H.ext⟩)
          | (rw [hb, hg3_9, hg3_14]; exact ⟨rfl, H.ext⟩)
          | (rw [hb, hg3_9]; exact ⟨rfl, H.ext⟩)
/-- Are two batches the same? -/
def sameBat (f : Bool) (v : Int) (t : Tp) (m : Int) (rs : List Rq) (f' : Bool) (v' : Int) (t' : Tp) (m' : Int) (rs' : List Rq) : Bool :=
  decide (f = f' ∧ v = v' ∧ t.view = t'.view ∧ t.slot = t'.slot ∧ m = m' ∧ rs = rs')
theorem SameBatR_c {F G : Nat → Prop} (a b : Bat) {rs ss : List Rq} (w : World) (hu : Rs F w a.reqs rs) (hv : Rs G w b.reqs ss) :
    Calls Try.prog 25 #[agg a, agg b] w fun e w' => e = .returned (.bool (sameBat a.fill a.view a.tip a.time rs b.fill b.view b.tip b.time ss)) ∧ Ext0 w w' := by
  obtain ⟨af, av, ⟨atv, ats⟩, am, aq⟩ := a
  obtain ⟨bf, bv, ⟨tv, ts⟩, bm, bq⟩ := b
  dsimp only at hu hv ⊢
  have H := ((SH.start w).arg hu).arg hv
  refine calls_of_CW Try.func25 rfl Try.ntmps25 (Nat.le_of_ble_eq_true rfl) ?_
  simp only [argE, argFrom, Nat.reduceAdd]
  refine CW.seq (fun K1 h1 => ?_)
  refine CW.region ?_
  refine s_box H rfl (by simp only [upd_get, ev, Nat.reduceEqDiff, ↓reduceIte] <;> rfl) rfl ?_
  clear H
  intro b0_0 w0_0 H
  try dsimp only [replC, List.cons_append, List.nil_append, List.append_nil, agg, cellsL, Value.cells, List.toList_toArray, List.set_cons_zero, List.set_cons_succ, spliceL, List.take_succ_cons, List.take_zero, List.drop_succ_cons, List.drop_zero, List.length_cons, List.length_nil, Nat.reduceAdd, Row.cells, Cm.L, Rq.L, Tp.L, Bat.L] at H
  refine s_box H rfl (by simp only [upd_get, ev, Nat.reduceEqDiff, ↓reduceIte] <;> rfl) rfl ?_
  clear H
  intro b0_1 w0_1 H
  try dsimp only [replC, List.cons_append, List.nil_append, List.append_nil, agg, cellsL, Value.cells, List.toList_toArray, List.set_cons_zero, List.set_cons_succ, spliceL, List.take_succ_cons, List.take_zero, List.drop_succ_cons, List.drop_zero, List.length_cons, List.length_nil, Nat.reduceAdd, Row.cells, Cm.L, Rq.L, Tp.L, Bat.L] at H
  refine r_assign rfl ?_
  refine LW.nil ?_
  refine thenE_norm (h1 _ _ ?_); clear h1; try clear K1
  refine CW.seq (fun K2 h2 => ?_)
  refine CW.region ?_
  refine r_fieldAddrO rfl Try.underlying27 rfl Try.sizeOf4 (by decide) (show _ = 0 from rfl) rfl ?_
  refine r_load rfl Try.isAgg4 rfl (by first | exact SH.cellB H (by (repeat first | exact At.here | apply At.there); done) (by rfl) | assumption) ?_
  refine r_fieldAddrO rfl Try.underlying27 rfl Try.sizeOf4 (by decide) (show _ = 0 from rfl) rfl ?_
  refine r_load rfl Try.isAgg4 rfl (by first | exact SH.cellB H (by (repeat first | exact At.here | apply At.there); done) (by rfl) | assumption) ?_
  refine r_eqlB rfl Try.underlying4 rfl rfl ?_
  refine r_move rfl ?_
  refine' LW.grpAnd (n := 6) (ts := [2, 3, 17, 24, 31]) (d := 16) (tj := 10) rfl (fun hg1_6 => ?_) (fun hg1_6 => ?_) (fun σ => ?_)
  rotate_left
  · simp only [List.take_succ_cons, List.take_zero]
    have hg1_6P := hg1_6
    try simp only [decide_eq_true_eq, decide_eq_false_iff_not, Bool.and_eq_true, Bool.or_eq_true, Bool.and_eq_false_iff, Bool.or_eq_false_iff, Bool.not_eq_true', Bool.not_eq_false', beq_iff_eq, bne_iff_ne] at hg1_6P
    refine LW.want rfl rfl hg1_6 ?_
    refine r_fieldAddrO rfl Try.underlying27 rfl Try.sizeOf3 (by decide) (show _ = 1 from rfl) rfl ?_
    refine LW.want rfl rfl hg1_6 ?_
    refine r_load rfl Try.isAgg3 rfl (by first | exact SH.cellB H (by (repeat first | exact At.here | apply At.there); done) (by rfl) | assumption) ?_
    refine LW.want rfl rfl hg1_6 ?_
    refine r_fieldAddrO rfl Try.underlying27 rfl Try.sizeOf3 (by decide) (show _ = 1 from rfl) rfl ?_
    refine LW.want rfl rfl hg1_6 ?_
    refine r_load rfl Try.isAgg3 rfl (by first | exact SH.cellB H (by (repeat first | exact At.here | apply At.there); done) (by rfl) | assumption) ?_
    refine LW.want rfl rfl hg1_6 ?_
    refine r_eql rfl rfl rfl ?_
    refine r_pickT rfl rfl hg1_6 ?_
    refine LW.nil (thenE_norm ⟨rfl, rfl, rfl⟩)
  · simp only [List.take_succ_cons, List.take_zero]
    refine LW.skip rfl (fun _ e => by cases e; decide) rfl hg1_6 ?_
    refine LW.skip rfl (fun _ e => by cases e; decide) rfl hg1_6 ?_
    refine LW.skip rfl (fun _ e => by cases e; decide) rfl hg1_6 ?_
    refine LW.skip rfl (fun _ e => by cases e; decide) rfl hg1_6 ?_
    refine LW.skip rfl (fun _ e => by cases e; decide) rfl hg1_6 ?_
    refine r_pickF rfl rfl hg1_6 ?_
    refine LW.nil (thenE_norm ⟨rfl, rfl, rfl⟩)
  simp only [setL, keepE, upd_get, ev, Nat.reduceEqDiff, ↓reduceIte]; simp only [List.drop_succ_cons, List.drop_zero]
  refine r_move rfl ?_
  refine' LW.grpAnd (n := 6) (ts := [2, 3, 24, 31]) (d := 23) (tj := 17) rfl (fun hg1_13 => ?_) (fun hg1_13 => ?_) (fun σ => ?_)
  rotate_left
  · simp only [List.take_succ_cons, List.take_zero]
    have hg1_13P := hg1_13
    try simp only [decide_eq_true_eq, decide_eq_false_iff_not, Bool.and_eq_true, Bool.or_eq_true, Bool.and_eq_false_iff, Bool.or_eq_false_iff, Bool.not_eq_true', Bool.not_eq_false', beq_iff_eq, bne_iff_ne] at hg1_13P
    refine LW.want rfl rfl hg1_13 ?_
    refine r_fieldAddrO rfl Try.underlying27 rfl Try.sizeOf24 (by decide) (show _ = 2 from rfl) rfl ?_
    refine LW.want rfl rfl hg1_13 ?_
    refine r_loadA rfl Try.isAgg24 Try.sizeOf24 rfl (by first | exact SH.partOf (n := 2) H (by (repeat first | exact At.here | apply At.there); done) (by simp only [Row.cells, List.drop_succ_cons, List.drop_zero, List.take_succ_cons, List.take_zero, Cm.L, Rq.L, Tp.L, Bat.L] <;> rfl) | exact SH.cells H (by (repeat first | exact At.here | apply At.there); done)) (by rfl) ?_
    refine LW.want rfl rfl hg1_13 ?_
    refine r_fieldAddrO rfl Try.underlying27 rfl Try.sizeOf24 (by decide) (show _ = 2 from rfl) rfl ?_
    refine LW.want rfl rfl hg1_13 ?_
    refine r_loadA rfl Try.isAgg24 Try.sizeOf24 rfl (by first | exact SH.partOf (n := 2) H (by (repeat first | exact At.here | apply At.there); done) (by simp only [Row.cells, List.drop_succ_cons, List.drop_zero, List.take_succ_cons, List.take_zero, Cm.L, Rq.L, Tp.L, Bat.L] <;> rfl) | exact SH.cells H (by (repeat first | exact At.here | apply At.there); done)) (by rfl) ?_
    refine LW.want rfl rfl hg1_13 ?_
    refine r_eqlG rfl (by kernel_rfl) rfl rfl (EqA.struct Try.underlying24 (by kernel_rfl) (EqF.one rfl Try.isAgg3 rfl rfl (EqA.int Try.underlying3) (EqF.one rfl Try.isAgg3 rfl rfl (EqA.int Try.underlying3) EqF.nil))) ?_
    refine r_pickT rfl rfl hg1_13 ?_
    refine LW.nil (thenE_norm ⟨rfl, rfl, rfl⟩)
  · simp only [List.take_succ_cons, List.take_zero]
    refine LW.skip rfl (fun _ e => by cases e; decide) rfl hg1_13 ?_
    refine LW.skip rfl (fun _ e => by cases e; decide) rfl hg1_13 ?_
    refine LW.skip rfl (fun _ e => by cases e; decide) rfl hg1_13 ?_
    refine LW.skip rfl (fun _ e => by cases e; decide) rfl hg1_13 ?_
    refine LW.skip rfl (fun _ e => by cases e; decide) rfl hg1_13 ?_
    refine r_pickF rfl rfl hg1_13 ?_
    refine LW.nil (thenE_norm ⟨rfl, rfl, rfl⟩)
  simp only [setL, keepE, upd_get, ev, Nat.reduceEqDiff, ↓reduceIte]; simp only [List.drop_succ_cons, List.drop_zero]
  refine r_move rfl ?_
  refine' LW.grpAnd (n := 6) (ts := [2, 3, 31]) (d := 30) (tj := 24) rfl (fun hg1_20 => ?_) (fun hg1_20 => ?_) (fun σ => ?_)
  rotate_left
  · simp only [List.take_succ_cons, List.take_zero]
    have hg1_20P := hg1_20
    try simp only [decide_eq_true_eq, decide_eq_false_iff_not, Bool.and_eq_true, Bool.or_eq_true, Bool.and_eq_false_iff, Bool.or_eq_false_iff, Bool.not_eq_true', Bool.not_eq_false', beq_iff_eq, bne_iff_ne] at hg1_20P
    refine LW.want rfl rfl hg1_20 ?_
    refine r_fieldAddrO rfl Try.underlying27 rfl Try.sizeOf3 (by decide) (show _ = 4 from rfl) rfl ?_
    refine LW.want rfl rfl hg1_20 ?_
    refine r_load rfl Try.isAgg3 rfl (by first | exact SH.cellB H (by (repeat first | exact At.here | apply At.there); done) (by rfl) | assumption) ?_
    refine LW.want rfl rfl hg1_20 ?_
    refine r_fieldAddrO rfl Try.underlying27 rfl Try.sizeOf3 (by decide) (show _ = 4 from rfl) rfl ?_
    refine LW.want rfl rfl hg1_20 ?_
    refine r_load rfl Try.isAgg3 rfl (by first | exact SH.cellB H (by (repeat first | exact At.here | apply At.there); done) (by rfl) | assumption) ?_
    refine LW.want rfl rfl hg1_20 ?_
    refine r_eql rfl rfl rfl ?_
    refine r_pickT rfl rfl hg1_20 ?_
    refine LW.nil (thenE_norm ⟨rfl, rfl, rfl⟩)
  · simp only [List.take_succ_cons, List.take_zero]
    refine LW.skip rfl (fun _ e => by cases e; decide) rfl hg1_20 ?_
    refine LW.skip rfl (fun _ e => by cases e; decide) rfl hg1_20 ?_
    refine LW.skip rfl (fun _ e => by cases e; decide) rfl hg1_20 ?_
    refine LW.skip rfl (fun _ e => by cases e; decide) rfl hg1_20 ?_
    refine LW.skip rfl (fun _ e => by cases e; decide) rfl hg1_20 ?_
    refine r_pickF rfl rfl hg1_20 ?_
    refine LW.nil (thenE_norm ⟨rfl, rfl, rfl⟩)
  simp only [setL, keepE, upd_get, ev, Nat.reduceEqDiff, ↓reduceIte]; simp only [List.drop_succ_cons, List.drop_zero]
  refine r_move rfl ?_
  refine LW.splitB (t := 31) rfl (fun hg1_27 => ?_) (fun hg1_27 => ?_)
  · have hg1_27P := hg1_27
    try simp only [decide_eq_true_eq, decide_eq_false_iff_not, Bool.and_eq_true, Bool.or_eq_true, Bool.and_eq_false_iff, Bool.or_eq_false_iff, Bool.not_eq_true', Bool.not_eq_false', beq_iff_eq, bne_iff_ne] at hg1_27P
    refine LW.want rfl rfl hg1_27 ?_
    refine r_fieldAddrO rfl Try.underlying27 rfl Try.sizeOf25 (by decide) (show _ = 5 from rfl) rfl ?_
    refine LW.want rfl rfl hg1_27 ?_
    refine r_load rfl Try.isAgg25 rfl (by first | exact SH.cellB H (by (repeat first | exact At.here | apply At.there); done) (by rfl) | assumption) ?_
    refine LW.want rfl rfl hg1_27 ?_
    refine r_fieldAddrO rfl Try.underlying27 rfl Try.sizeOf25 (by decide) (show _ = 5 from rfl) rfl ?_
    refine LW.want rfl rfl hg1_27 ?_
    refine r_load rfl Try.isAgg25 rfl (by first | exact SH.cellB H (by (repeat first | exact At.here | apply At.there); done) (by rfl) | assumption) ?_
    refine LW.want rfl rfl hg1_27 ?_
    refine r_call rfl Try.call69 (by simp only [List.map_cons, List.map_nil, List.map_toArray, List.toList_toArray, upd_get, ev, Nat.reduceEqDiff, ↓reduceIte] <;> rfl) (SameReqs_c _ (SH.rsR H (i := 0) rfl) (SH.rsR H (i := 1) rfl)) ?_
    rintro _ w1_31 ⟨rfl, X⟩
    refine ⟨_, rfl, ?_⟩
    replace H := SH.same H X
    clear X
    refine r_pickT rfl rfl hg1_27 ?_
    refine r_assign rfl ?_
    refine LW.nil ?_
    refine thenE_norm ?_
    refine cut (K := K2) [4] (fun σ => ?_)
    simp only [setL, keepE, upd_get, ev, Nat.reduceEqDiff, ↓reduceIte]
    refine h2 _ _ ?_; clear h2; try clear K2
    refine CW.ret (ret1 Try.results25 (by simp only [upd_get, ev, Nat.reduceEqDiff, ↓reduceIte]; rfl) ?_)
    refine ⟨?_, H.ext⟩
    congr 2
    rw [Bool.eq_iff_iff]
    simp only [sameBat, decide_eq_true_eq]
    simp at hg1_27
    first
      | (simp [hg1_27]; done)
      | (constructor
         · intro h; cases h
         · rintro ⟨h1, h2, h3, h4, h5, -⟩; exact absurd h5 (hg1_27 h1 h2 h3 h4))
      | simp_all
  · have hg1_27P := hg1_27
    try simp only [decide_eq_true_eq, decide_eq_false_iff_not, Bool.and_eq_true, Bool.or_eq_true, Bool.and_eq_false_iff, Bool.or_eq_false_iff, Bool.not_eq_true', Bool.not_eq_false', beq_iff_eq, bne_iff_ne] at hg1_27P
    refine LW.skip rfl (fun _ e => by cases e; decide) rfl hg1_27 ?_
    refine LW.skip rfl (fun _ e => by cases e; decide) rfl hg1_27 ?_
    refine LW.skip rfl (fun _ e => by cases e; decide) rfl hg1_27 ?_
    refine LW.skip rfl (fun _ e => by cases e; decide) rfl hg1_27 ?_
    refine LW.skip rfl (fun _ e => by cases e; decide) rfl hg1_27 ?_
    refine r_pickF rfl rfl hg1_27 ?_
    refine r_assign rfl ?_
    refine LW.nil ?_
    refine thenE_norm (h2 _ _ ?_); clear h2; try clear K2
    refine CW.ret (ret1 Try.results25 (by simp only [upd_get, ev, Nat.reduceEqDiff, ↓reduceIte]; rfl) ?_)
    refine ⟨?_, H.ext⟩
    congr 2
    rw [Bool.eq_iff_iff]
    simp only [sameBat, decide_eq_true_eq]
    simp at hg1_27
    first
      | (simp [hg1_27]; done)
      | (constructor
         · intro h; cases h
         · rintro ⟨h1, h2, h3, h4, h5, -⟩; exact absurd h5 (hg1_27 h1 h2 h3 h4))
      | simp_all
/-- Is a batch more than is looked at? -/
def greatQ (rs : List Rq) : Bool := decide (20 < rs.length) || rs.any fun r => decide (300 < r.cmd.name.size)
theorem Great_c {F : Nat → Prop} (b : Bat) {rs : List Rq} (w : World) (hv : Rs F w b.reqs rs) :
    Calls Try.prog 41 #[agg b] w fun e w' => e = .returned (.bool (greatQ rs)) ∧ Ext0 w w' := by
  obtain ⟨bf, bv, ⟨tv, ts⟩, bm, bq⟩ := b
  dsimp only at hv ⊢
  have H := (SH.start w).arg hv
  have h63 := hv.len63
  refine calls_of_CW Try.func41 rfl Try.ntmps41 (Nat.le_of_ble_eq_true rfl) ?_
  simp only [argE, argFrom, Nat.reduceAdd]
  refine CW.seq (fun K1 h1 => ?_)
  refine CW.region ?_
  refine s_box H rfl (by simp only [upd_get, ev, Nat.reduceEqDiff, ↓reduceIte] <;> rfl) rfl ?_
  clear H
  intro b0_0 w0_0 H
  try dsimp only [replC, List.cons_append, List.nil_append, List.append_nil, agg, cellsL, Value.cells, List.toList_toArray, List.set_cons_zero, List.set_cons_succ, spliceL, List.take_succ_cons, List.take_zero, List.drop_succ_cons, List.drop_zero, List.length_cons, List.length_nil, Nat.reduceAdd, Row.cells, Cm.L, Rq.L, Tp.L, Bat.L] at H
  refine r_assign rfl ?_
  refine LW.nil ?_
  refine thenE_norm (h1 _ _ ?_); clear h1; try clear K1
  refine CW.seq (fun K2 h2 => ?_)
  refine CW.seq (fun K3 h3 => ?_)
  refine CW.region ?_
  refine r_fieldAddrO rfl Try.underlying27 rfl Try.sizeOf25 (by decide) (show _ = 5 from rfl) rfl ?_
  refine r_load rfl Try.isAgg25 rfl (by first | exact SH.cellB H (by (repeat first | exact At.here | apply At.there); done) (by rfl) | assumption) ?_
  first
    | refine r_lenV rfl Try.underlying25 (by simp only [upd_get, ev, Nat.reduceEqDiff, ↓reduceIte] <;> rfl) (by first | assumption | exact SH.rsR H (by (repeat first | exact At.here | apply At.there); done) | exact SH.rsO H (by (repeat first | exact At.here | apply At.there); done) | exact (Rs.nil : Rs Non _ _ _)) ?_
    | refine r_len rfl Try.underlying25 rfl ?_
  refine r_gtr rfl rfl rfl ?_
  refine LW.nil ?_
  refine thenE_norm (h3 _ _ ?_); clear h3; try clear K3
  refine CW.cond rfl (fun hc1 => ?_) (fun hc1 => ?_)
  · try simp only [decide_eq_true_eq, decide_eq_false_iff_not, Bool.and_eq_true, Bool.or_eq_true, Bool.and_eq_false_iff, Bool.or_eq_false_iff, Bool.not_eq_true', Bool.not_eq_false', beq_iff_eq, bne_iff_ne, ne_eq, Decidable.not_not] at hc1
    refine CW.seq (fun K4 h4 => ?_)
    refine CW.region ?_
    refine r_assign rfl ?_
    refine LW.nil ?_
    refine thenE_norm (h4 _ _ ?_); clear h4; try clear K4
    refine CW.ret (thenE_ret (ret1 Try.results41 (by simp only [upd_get, ev, Nat.reduceEqDiff, ↓reduceIte]; rfl) ?_))
    exact ⟨by rw [greatQ, decide_eq_true (by omega)]; rfl, H.ext⟩
  · try simp only [decide_eq_true_eq, decide_eq_false_iff_not, Bool.and_eq_true, Bool.or_eq_true, Bool.and_eq_false_iff, Bool.or_eq_false_iff, Bool.not_eq_true', Bool.not_eq_false', beq_iff_eq, bne_iff_ne, ne_eq, Decidable.not_not] at hc1
    refine CW.skip ?_
    refine thenE_norm (h2 _ _ ?_); clear h2; try clear K2
    refine CW.seq (fun K5 h5 => ?_)
    refine CW.seq (fun K6 h6 => ?_)
    refine CW.region ?_
    refine r_assign rfl ?_
    refine LW.nil ?_
    refine thenE_norm (h6 _ _ ?_); clear h6; try clear K6
    refine CW.block ?_
    refine CW.loopR [1] [3] (fun m vs w' => ∃ i : Nat, vs = [.int .i64 i] ∧ i ≤ rs.length ∧ m = rs.length - i ∧ ((rs.take i).any fun r => decide (300 < r.cmd.name.size)) = false ∧ SH Non Any w w' [.R (Old w) bq rs, .B b0_0 27 [.bool bf, .int .i64 bv, .int .i64 tv, .int .i64 ts, .int .i64 bm, bq]]) (rs.length) ?_ ?_
    · exact ⟨0, rfl, by omega, by omega, rfl, H⟩
    try clear H
    rintro n1 vs1 wL1 σ ⟨i, rfl, hi, rfl, hno, H⟩
    simp only [setL, keepE, upd_get, ev, Nat.reduceEqDiff, ↓reduceIte]
    refine CW.seq (fun K7 h7 => ?_)
    refine CW.seq (fun K8 h8 => ?_)
    refine CW.region ?_
    refine r_move rfl ?_
    refine r_fieldAddrO rfl Try.underlying27 rfl Try.sizeOf25 (by decide) (show _ = 5 from rfl) rfl ?_
    refine r_load rfl Try.isAgg25 rfl (by first | exact SH.cellB H (by (repeat first | exact At.here | apply At.there); done) (by rfl) | assumption) ?_
    first
      | refine r_lenV rfl Try.underlying25 (by simp only [upd_get, ev, Nat.reduceEqDiff, ↓reduceIte] <;> rfl) (by first | assumption | exact SH.rsR H (by (repeat first | exact At.here | apply At.there); done) | exact SH.rsO H (by (repeat first | exact At.here | apply At.there); done) | exact (Rs.nil : Rs Non _ _ _)) ?_
      | refine r_len rfl Try.underlying25 rfl ?_
    refine r_lss rfl rfl rfl ?_
    refine LW.nil ?_
    refine thenE_norm (h8 _ _ ?_); clear h8; try clear K8
    refine CW.cond rfl (fun hc2 => ?_) (fun hc2 => ?_)
    · try simp only [decide_eq_true_eq, decide_eq_false_iff_not, Bool.and_eq_true, Bool.or_eq_true, Bool.and_eq_false_iff, Bool.or_eq_false_iff, Bool.not_eq_true', Bool.not_eq_false', beq_iff_eq, bne_iff_ne, ne_eq, Decidable.not_not] at hc2
      refine CW.skip ?_
      refine thenE_norm (h7 _ _ ?_); clear h7; try clear K7
      refine CW.seq (fun K9 h9 => ?_)
      refine CW.block ?_
      refine CW.seq (fun K10 h10 => ?_)
      obtain ⟨x, hx⟩ := get_of_lt (show i < rs.length by omega)
      refine CW.region ?_
      refine r_fieldAddrO rfl Try.underlying27 rfl Try.sizeOf25 (by decide) (show _ = 5 from rfl) rfl ?_
      refine r_load rfl Try.isAgg25 rfl (by first | exact SH.cellB H (by (repeat first | exact At.here | apply At.there); done) (by rfl) | assumption) ?_
      refine r_move rfl ?_
      refine r_indexAddrV rfl Try.underlying25 (by simp only [upd_get, ev, Nat.reduceEqDiff, ↓reduceIte] <;> rfl) rfl (by first | assumption | exact SH.rsR H (by (repeat first | exact At.here | apply At.there); done) | exact SH.rsO H (by (repeat first | exact At.here | apply At.there); done) | exact (Rs.nil : Rs Non _ _ _)) (by exact Try.sizeOf32) (by omega) (by omega) ?_
      refine r_fieldAddrO rfl Try.underlying32 rfl Try.sizeOf30 (by decide) (show _ + 2 = _ from rfl) rfl ?_
      refine r_fieldAddrO rfl Try.underlying30 rfl Try.sizeOf9 (by decide) (show _ + 2 = _ from rfl) rfl ?_
      refine r_load rfl Try.isAgg9 rfl (by first | exact Rs.cell (o := 4) (by first | assumption | exact SH.rsR H (by (repeat first | exact At.here | apply At.there); done) | exact SH.rsO H (by (repeat first | exact At.here | apply At.there); done) | exact (Rs.nil : Rs Non _ _ _)) (by assumption) (by rfl) | exact Rs.cell0 (by first | assumption | exact SH.rsR H (by (repeat first | exact At.here | apply At.there); done) | exact SH.rsO H (by (repeat first | exact At.here | apply At.there); done) | exact (Rs.nil : Rs Non _ _ _)) (by assumption) (by rfl) | assumption) ?_
      refine r_lenS rfl Try.underlying9 rfl ?_
      refine r_gtr rfl rfl rfl ?_
      refine LW.nil ?_
      refine thenE_norm ?_
      refine cut (K := K10) [1, 3, 23] (fun σ => ?_)
      simp only [setL, keepE, upd_get, ev, Nat.reduceEqDiff, ↓reduceIte]
      refine h10 _ _ ?_; clear h10; try clear K10
      refine CW.cond rfl (fun hc3 => ?_) (fun hc3 => ?_)
      · try simp only [decide_eq_true_eq, decide_eq_false_iff_not, Bool.and_eq_true, Bool.or_eq_true, Bool.and_eq_false_iff, Bool.or_eq_false_iff, Bool.not_eq_true', Bool.not_eq_false', beq_iff_eq, bne_iff_ne, ne_eq, Decidable.not_not] at hc3
        refine CW.seq (fun K11 h11 => ?_)
        refine CW.region ?_
        refine r_assign rfl ?_
        refine LW.nil ?_
        refine thenE_norm (h11 _ _ ?_); clear h11; try clear K11
        refine CW.ret (blockE_ret (thenE_ret (thenE_ret (blockE_ret (thenE_ret (ret1 Try.results41 (by simp only [upd_get, ev, Nat.reduceEqDiff, ↓reduceIte]; rfl) ?_))))))
        have hany : (rs.any fun r => decide (300 < r.cmd.name.size)) = true := List.any_eq_true.2 ⟨x, List.mem_of_getElem? hx, decide_eq_true (by omega)⟩
        exact ⟨by rw [greatQ, hany, Bool.or_true], H.ext⟩
      · try simp only [decide_eq_true_eq, decide_eq_false_iff_not, Bool.and_eq_true, Bool.or_eq_true, Bool.and_eq_false_iff, Bool.or_eq_false_iff, Bool.not_eq_true', Bool.not_eq_false', beq_iff_eq, bne_iff_ne, ne_eq, Decidable.not_not] at hc3
        refine CW.skip ?_
        refine blockE_norm ?_
        refine thenE_norm (h9 _ _ ?_); clear h9; try clear K9
        refine CW.region ?_
        refine r_move rfl ?_
        refine r_add rfl rfl rfl (wr_i64 (by omega) (by omega)) ?_
        refine r_assign rfl ?_
        refine LW.nil ?_
        refine thenE_norm ⟨rfl, ?_⟩
        exact ⟨rs.length - (i + 1), by omega, i + 1, rfl, by omega, rfl, any_snoc hx hno (decide_eq_false (by omega)), H⟩
    · try simp only [decide_eq_true_eq, decide_eq_false_iff_not, Bool.and_eq_true, Bool.or_eq_true, Bool.and_eq_false_iff, Bool.or_eq_false_iff, Bool.not_eq_true', Bool.not_eq_false', beq_iff_eq, bne_iff_ne, ne_eq, Decidable.not_not] at hc2
      refine CW.exit (thenE_exit (thenE_exit (blockE_hit ?_)))
      refine thenE_norm (h5 _ _ ?_); clear h5; try clear K5
      refine CW.seq (fun K12 h12 => ?_)
      refine CW.region ?_
      refine r_assign rfl ?_
      refine LW.nil ?_
      refine thenE_norm (h12 _ _ ?_); clear h12; try clear K12
      refine CW.ret (ret1 Try.results41 (by simp only [upd_get, ev, Nat.reduceEqDiff, ↓reduceIte]; rfl) ?_)
      obtain rfl : i = rs.length := by omega
      rw [List.take_length] at hno
      exact ⟨by rw [greatQ, hno, decide_eq_false (by omega)]; rfl, H.ext⟩
end Go.Proofs.Ytalieccfdmokmaa
