/-
  The walks of layer 8's laws, the third part: LockTokens.
-/
import Derived.Test.YtaggdlbjgjagbaaVLkE
namespace Go.Proofs.Ytaggdlbjgjagbaa
set_option linter.unusedSimpArgs false
set_option linter.unusedVariables false
set_option maxRecDepth 20000
open Go.V Go.RowKit Go.ChangeShapes Go.WideShapes

theorem SH.addIL {U G : Nat → Prop} {w0 w : World} {L : List Ch} (H : SH U G w0 w L) : SH U G w0 w (L ++ [.I Non (LksA Non [] [])]) :=
  H.call ⟨Ext.refl _ _, Val.one ⟨trivial, lks_st, fun b h => h.elim, fun h => h.elim, fun b h => h.elim⟩⟩
set_option maxHeartbeats 16000000 in
theorem LockTokens_c {F : Nat → Prop} {v : Value} {acts : List Act8} (w : World) (hv : Rs F w v acts) :
    Calls Try.prog 11 #[v] w fun e w' => e = .returned (.bool true) ∧ Ext0 w w' := by
  have H := (SH.start w).arg hv
  have h63 := hv.len63
  refine calls_of_CW Try.func11 rfl Try.ntmps11 (Nat.le_of_ble_eq_true rfl) ?_
  simp only [argE, argFrom, Nat.reduceAdd]
  refine CW.seq (fun K1 h1 => ?_)
  refine CW.region ?_
  refine r_assign rfl ?_
  refine LW.nil ?_
  refine thenE_norm (h1 _ _ ?_); clear h1; try clear K1
  refine CW.seq (fun K2 h2 => ?_)
  refine CW.seq (fun K3 h3 => ?_)
  refine CW.region ?_
  refine r_move rfl ?_
  first
    | refine r_lenV rfl Try.underlying47 (by simp only [upd_get, ev, Nat.reduceEqDiff, ↓reduceIte] <;> rfl) (by first | assumption | exact SH.rsR H (by (repeat first | exact At.here | apply At.there); done) | exact SH.rsO H (by (repeat first | exact At.here | apply At.there); done) | exact (Rs.nil : Rs Non _ _ _)) ?_
    | refine r_len rfl Try.underlying47 rfl ?_
  refine r_gtr rfl rfl rfl ?_
  refine LW.nil ?_
  refine thenE_norm (h3 _ _ ?_); clear h3; try clear K3
  refine CW.cond rfl (fun hc1 => ?_) (fun hc1 => ?_)
  · try simp only [decide_eq_true_eq, decide_eq_false_iff_not, Bool.and_eq_true, Bool.or_eq_true, Bool.and_eq_false_iff, Bool.or_eq_false_iff, Bool.not_eq_true', Bool.not_eq_false', beq_iff_eq, bne_iff_ne, ne_eq, Decidable.not_not] at hc1
    refine CW.seq (fun K4 h4 => ?_)
    refine CW.region ?_
    refine r_call rfl Try.call31 (by simp only [List.map_cons, List.map_nil, List.map_toArray, List.toList_toArray, upd_get, ev, Nat.reduceEqDiff, ↓reduceIte] <;> rfl) (awake8_c _) ?_
    rintro _ w2_0 ⟨rfl, X⟩
    refine ⟨_, rfl, ?_⟩
    replace H := SH.same H X
    clear X
    refine r_assign rfl ?_
    refine LW.nil ?_
    refine thenE_norm (h4 _ _ ?_); clear h4; try clear K4
    refine CW.ret (thenE_ret (ret1 Try.results11 (by simp only [upd_get, ev, Nat.reduceEqDiff, ↓reduceIte]; rfl) ?_))
    exact ⟨rfl, H.ext⟩
  · try simp only [decide_eq_true_eq, decide_eq_false_iff_not, Bool.and_eq_true, Bool.or_eq_true, Bool.and_eq_false_iff, Bool.or_eq_false_iff, Bool.not_eq_true', Bool.not_eq_false', beq_iff_eq, bne_iff_ne, ne_eq, Decidable.not_not] at hc1
    refine CW.skip ?_
    refine thenE_norm (h2 _ _ ?_); clear h2; try clear K2
    refine CW.seq (fun K5 h5 => ?_)
    refine CW.region ?_
    refine r_assign rfl ?_
    refine LW.nil ?_
    refine thenE_norm (h5 _ _ ?_); clear h5; try clear K5
    refine CW.seq (fun K6 h6 => ?_)
    refine CW.region ?_
    refine r_assign rfl ?_
    refine LW.nil ?_
    refine thenE_norm (h6 _ _ ?_); clear h6; try clear K6
    refine CW.seq (fun K7 h7 => ?_)
    refine CW.seq (fun K8 h8 => ?_)
    refine CW.region ?_
    refine r_assign rfl ?_
    refine LW.nil ?_
    refine thenE_norm (h8 _ _ ?_); clear h8; try clear K8
    refine CW.block ?_
    refine CW.loopR [0] [3, 4, 5] (fun m vs w' => ∃ (i : Nat) (u : Value) (raws : List Lk) (ms : List Lm) (tok : Int) (FU FL : Nat → Prop), vs = [u, .int .i64 tok, .int .i64 i] ∧ i ≤ acts.length ∧ m = acts.length - i ∧ 0 ≤ tok ∧ tok ≤ 4 * i ∧ OkK ms tok ∧ SH Non Any w w' [.R (Old w) v acts, .R FU u raws, .I FL (LksA FL raws ms)]) (acts.length) ?_ ?_
    · exact ⟨0, .slice none 0 0, [], [], 0, _, _, rfl, by omega, by omega, by omega, by omega, OkK.nil 0, SH.sel (SH.addIL (SH.freeze (H.addO (α := Lk) 53) (i := 1) rfl)) [0, 1, 2] (by decide) rfl⟩
    try clear H
    rintro n1 vs1 wL1 σ ⟨i, u, raws, ms, tok, FU, FL, rfl, hi, rfl, ht0, ht1, hok, H⟩
    simp only [setL, keepE, upd_get, ev, Nat.reduceEqDiff, ↓reduceIte]
    refine CW.seq (fun K9 h9 => ?_)
    refine CW.seq (fun K10 h10 => ?_)
    refine CW.region ?_
    refine r_move rfl ?_
    refine r_move rfl ?_
    first
      | refine r_lenV rfl Try.underlying47 (by simp only [upd_get, ev, Nat.reduceEqDiff, ↓reduceIte] <;> rfl) (by first | assumption | exact SH.rsR H (by (repeat first | exact At.here | apply At.there); done) | exact SH.rsO H (by (repeat first | exact At.here | apply At.there); done) | exact (Rs.nil : Rs Non _ _ _)) ?_
      | refine r_len rfl Try.underlying47 rfl ?_
    refine r_lss rfl rfl rfl ?_
    refine LW.nil ?_
    refine thenE_norm (h10 _ _ ?_); clear h10; try clear K10
    refine CW.cond rfl (fun hc2 => ?_) (fun hc2 => ?_)
    · try simp only [decide_eq_true_eq, decide_eq_false_iff_not, Bool.and_eq_true, Bool.or_eq_true, Bool.and_eq_false_iff, Bool.or_eq_false_iff, Bool.not_eq_true', Bool.not_eq_false', beq_iff_eq, bne_iff_ne, ne_eq, Decidable.not_not] at hc2
      refine CW.skip ?_
      refine thenE_norm (h9 _ _ ?_); clear h9; try clear K9
      refine CW.seq (fun K11 h11 => ?_)
      refine CW.block ?_
      refine CW.seq (fun K12 h12 => ?_)
      obtain ⟨⟨a1, a2, a3⟩, ha⟩ := get_of_lt (show i < acts.length by omega)
      have ha1 := a1.toNat_lt
      have ha2 := a2.toNat_lt
      have ha3 := a3.toNat_lt
      have hsh := hok.short
      have hl4 := hok.len
      have hrl : raws.length = ms.length := All2.len (SH.propI H (i := 2) rfl)
      have hns := (nameOf_ok (a2.toNat : Int) (by omega)).1
      refine CW.region ?_
      refine r_move rfl ?_
      refine r_move rfl ?_
      refine r_indexAddrV rfl Try.underlying47 (by simp only [upd_get, ev, Nat.reduceEqDiff, ↓reduceIte] <;> rfl) rfl (by first | assumption | exact SH.rsR H (by (repeat first | exact At.here | apply At.there); done) | exact SH.rsO H (by (repeat first | exact At.here | apply At.there); done) | exact (Rs.nil : Rs Non _ _ _)) (by exact Try.sizeOf65) (by omega) (by omega) ?_
      refine r_loadA rfl Try.isAgg65 Try.sizeOf65 rfl (by first | exact Rs.cells0 (by first | assumption | exact SH.rsR H (by (repeat first | exact At.here | apply At.there); done) | exact SH.rsO H (by (repeat first | exact At.here | apply At.there); done) | exact (Rs.nil : Rs Non _ _ _)) (by assumption)) (by rfl) ?_
      refine s_alloc (cs := [.int .u8 0, .int .u8 0, .int .u8 0]) H rfl Try.zeroValue65 rfl ?_
      clear H
      intro b8_4 w8_4 H
      try dsimp only [replC, List.cons_append, List.nil_append, List.append_nil, agg, cellsL, Value.cells, List.toList_toArray, List.set_cons_zero, List.set_cons_succ, spliceL, List.take_succ_cons, List.take_zero, List.drop_succ_cons, List.drop_zero, List.length_cons, List.length_nil, Nat.reduceAdd, Row.cells, Gr.L, Lk.L, Act8.L] at H
      refine s_storeA H Try.sizeOf65 rfl (by simp only [upd_get, ev, Nat.reduceEqDiff, ↓reduceIte] <;> rfl) (by simp only [cellsL, agg, List.toList_toArray, Row.cells, Gr.L, Lk.L, Act8.L] <;> rfl) (by rfl) (by first | rfl | assumption | exact Rs.oneC (by first | assumption | exact SH.rsR H (by (repeat first | exact At.here | apply At.there); done) | exact SH.rsO H (by (repeat first | exact At.here | apply At.there); done) | exact (Rs.nil : Rs Non _ _ _)) | (simp only [List.all_cons, List.all_nil, Bool.and_true, Bool.and_eq_true, Row.cells, Gr.L, Lk.L, Act8.L]; (repeat' constructor) <;> first | rfl | assumption | exact Rs.oneC (by first | assumption | exact SH.rsR H (by (repeat first | exact At.here | apply At.there); done) | exact SH.rsO H (by (repeat first | exact At.here | apply At.there); done) | exact (Rs.nil : Rs Non _ _ _)))) (by (repeat first | exact At.here | apply At.there); done) (by first | (simp; done) | decide | (show _ ≤ _; decide)) ?_
      clear H
      intro w8_5 H
      try dsimp only [replC, List.cons_append, List.nil_append, List.append_nil, agg, cellsL, Value.cells, List.toList_toArray, List.set_cons_zero, List.set_cons_succ, spliceL, List.take_succ_cons, List.take_zero, List.drop_succ_cons, List.drop_zero, List.length_cons, List.length_nil, Nat.reduceAdd, Row.cells, Gr.L, Lk.L, Act8.L] at H
      refine LW.nil ?_
      refine thenE_norm ?_
      refine cut (K := K12) [0, 3, 4, 5, 6] (fun σ => ?_)
      simp only [setL, keepE, upd_get, ev, Nat.reduceEqDiff, ↓reduceIte]
      refine h12 _ _ ?_; clear h12; try clear K12
      refine CW.seq (fun K13 h13 => ?_)
      refine CW.drawP [3] [] H (by dsimp only [pickC, nthC] <;> rfl) (by repeat first | exact List.Sublist.refl _ | exact List.nil_sublist _ | apply List.Sublist.cons_cons | apply List.Sublist.cons) (by kernel_rfl) rfl ?_
      clear H
      intro w9d H
      refine DL.take (i := 0) [] rfl (by kernel_rfl) (by kernel_rfl) (by kernel_rfl) (by kernel_rfl) rfl rfl (fun u H => x_fieldAddrO Try.underlying65 rfl Try.sizeOf5 (by decide) (show _ = 1 from rfl) rfl) (SH.sub H (by repeat first | exact List.Sublist.refl _ | exact List.nil_sublist _ | apply List.Sublist.cons_cons | apply List.Sublist.cons)) ?_
      refine DL.take (i := 1) [] rfl (by kernel_rfl) (by kernel_rfl) (by kernel_rfl) (by kernel_rfl) rfl rfl (fun u H => x_load Try.isAgg5 rfl (by first | exact SH.cellB H (by (repeat first | exact At.here | apply At.there); done) (by rfl) | assumption)) (SH.sub H (by repeat first | exact List.Sublist.refl _ | exact List.nil_sublist _ | apply List.Sublist.cons_cons | apply List.Sublist.cons)) ?_
      refine DL.take (i := 3) [] rfl (by kernel_rfl) (by kernel_rfl) (by kernel_rfl) (by kernel_rfl) rfl rfl (fun u H => x_fieldAddrO Try.underlying65 rfl Try.sizeOf5 (by decide) (show _ = 2 from rfl) rfl) (SH.sub H (by repeat first | exact List.Sublist.refl _ | exact List.nil_sublist _ | apply List.Sublist.cons_cons | apply List.Sublist.cons)) ?_
      refine DL.take (i := 4) [] rfl (by kernel_rfl) (by kernel_rfl) (by kernel_rfl) (by kernel_rfl) rfl rfl (fun u H => x_load Try.isAgg5 rfl (by first | exact SH.cellB H (by (repeat first | exact At.here | apply At.there); done) (by rfl) | assumption)) (SH.sub H (by repeat first | exact List.Sublist.refl _ | exact List.nil_sublist _ | apply List.Sublist.cons_cons | apply List.Sublist.cons)) ?_
      refine DL.take (i := 5) [] rfl (by kernel_rfl) (by kernel_rfl) (by kernel_rfl) (by kernel_rfl) rfl rfl (fun u H => x_convI Try.underlying5 Try.underlying3 rfl (wr_i64 (by omega) (by omega))) (SH.sub H (by repeat first | exact List.Sublist.refl _ | exact List.nil_sublist _ | apply List.Sublist.cons_cons | apply List.Sublist.cons)) ?_
      refine DL.take (i := 6) [] rfl (by kernel_rfl) (by kernel_rfl) (by kernel_rfl) (by kernel_rfl) rfl rfl (fun u H => x_rem rfl rfl (by omega) (by omega) (wr_i64 (by omega) (by omega))) (SH.sub H (by repeat first | exact List.Sublist.refl _ | exact List.nil_sublist _ | apply List.Sublist.cons_cons | apply List.Sublist.cons)) ?_
      refine DL.one (i := 2) (by kernel_rfl) rfl rfl ?_
      refine r_call rfl Try.call29 (by simp only [List.map_cons, List.map_nil, List.map_toArray, List.toList_toArray, upd_get, ev, Nat.reduceEqDiff, ↓reduceIte] <;> rfl) (Named_c _ _ (by omega) (by omega)) ?_
      rintro _ w9_2 ⟨rfl, X⟩
      refine ⟨_, rfl, ?_⟩
      replace H := SH.same H X
      clear X
      refine LW.nil (thenE_norm ⟨fun _ => (SH.sub H (by repeat first | exact List.Sublist.refl _ | exact List.nil_sublist _ | apply List.Sublist.cons_cons | apply List.Sublist.cons)), ?_⟩)
      refine DL.take (i := 7) [] rfl (by kernel_rfl) (by kernel_rfl) (by kernel_rfl) (by kernel_rfl) rfl rfl (fun u H => x_assign ) (SH.sub H (by repeat first | exact List.Sublist.refl _ | exact List.nil_sublist _ | apply List.Sublist.cons_cons | apply List.Sublist.cons)) ?_
      refine DL.take (i := 8) [] rfl (by kernel_rfl) (by kernel_rfl) (by kernel_rfl) (by kernel_rfl) rfl rfl (fun u H => x_assign ) (SH.sub H (by repeat first | exact List.Sublist.refl _ | exact List.nil_sublist _ | apply List.Sublist.cons_cons | apply List.Sublist.cons)) ?_
      refine DL.done (by kernel_rfl) ?_
      refine thenE_norm ?_
      refine cut (K := K13) [0, 3, 4, 5, 6, 7, 8] (fun σ => ?_)
      simp only [setL, keepE, upd_get, ev, Nat.reduceEqDiff, ↓reduceIte]
      refine h13 _ _ ?_; clear h13; try clear K13
      refine CW.seq (fun K14 h14 => ?_)
      refine CW.region ?_
      refine r_move rfl ?_
      refine r_assign rfl ?_
      refine r_assign rfl ?_
      refine LW.nil ?_
      refine thenE_norm (h14 _ _ ?_); clear h14; try clear K14
      refine CW.seqJ [0, 3, 4, 5] [9, 10] (fun vs w' => ∃ (u' : Value) (raws' : List Lk) (ns : List Lm) (given : Int) (FU' FL' : Nat → Prop), vs = [u', .int .i64 given] ∧ Stp ms tok ns given ∧ SH Non Any w w' [.R (Old w) v acts, .R FU u raws, .I FL (LksA FL raws ms), .R FU' u' raws', .I FL' (LksA FL' raws' ns)]) ?_ ?_
      · refine CW.seq (fun K16 h16 => ?_)
        refine CW.region ?_
        refine r_fieldAddrO rfl Try.underlying65 rfl Try.sizeOf5 (by decide) (show _ = 0 from rfl) rfl ?_
        refine r_load rfl Try.isAgg5 rfl (by first | exact SH.cellB H (by (repeat first | exact At.here | apply At.there); done) (by rfl) | assumption) ?_
        refine r_rem rfl rfl rfl (by omega) (by omega) (wr_u8 (by omega) (by omega)) ?_
        refine LW.nil ?_
        refine thenE_norm (h16 _ _ ?_); clear h16; try clear K16
        refine CW.block ?_
        refine CW.seq (fun K17 h17 => ?_)
        refine CW.seq (fun K18 h18 => ?_)
        refine CW.region ?_
        refine r_eql rfl rfl rfl ?_
        refine r_assign rfl ?_
        refine LW.nil ?_
        refine thenE_norm ?_
        refine cut (K := K18) [0, 3, 4, 5, 6, 7, 8, 9, 10, 45, 55] (fun σ => ?_)
        simp only [setL, keepE, upd_get, ev, Nat.reduceEqDiff, ↓reduceIte]
        refine h18 _ _ ?_; clear h18; try clear K18
        refine CW.cond rfl (fun hc3 => ?_) (fun hc3 => ?_)
        · try simp only [decide_eq_true_eq, decide_eq_false_iff_not, Bool.and_eq_true, Bool.or_eq_true, Bool.and_eq_false_iff, Bool.or_eq_false_iff, Bool.not_eq_true', Bool.not_eq_false', beq_iff_eq, bne_iff_ne, ne_eq, Decidable.not_not] at hc3
          refine CW.skip ?_
          refine thenE_norm (h17 _ _ ?_); clear h17; try clear K17
          refine CW.condT rfl (by first | rfl | (simp only [decide_eq_true_eq, decide_eq_false_iff_not, Bool.and_eq_true, Bool.or_eq_true, Bool.and_eq_false_iff, Bool.or_eq_false_iff, Bool.not_eq_true', Bool.not_eq_false', beq_iff_eq, bne_iff_ne]; omega) | simp_all) ?_
          refine CW.seq (fun K19 h19 => ?_)
          refine CW.region ?_
          refine r_move rfl ?_
          refine r_move rfl ?_
          refine r_move rfl ?_
          refine r_move rfl ?_
          refine r_fieldAddrO rfl Try.underlying65 rfl Try.sizeOf5 (by decide) (show _ = 0 from rfl) rfl ?_
          refine r_load rfl Try.isAgg5 rfl (by first | exact SH.cellB H (by (repeat first | exact At.here | apply At.there); done) (by rfl) | assumption) ?_
          refine r_rem rfl rfl rfl (by omega) (by omega) (wr_u8 (by omega) (by omega)) ?_
          refine r_eql rfl rfl rfl ?_
          refine r_call rfl Try.call32 (by simp only [List.map_cons, List.map_nil, List.map_toArray, List.toList_toArray, upd_get, ev, Nat.reduceEqDiff, ↓reduceIte] <;> rfl) (TakeK_c _ _ _ _ _ (SH.rsR H (i := 1) rfl) (SH.propI H (i := 2) rfl) (by omega) hsh hok.up (by omega) (by omega)) ?_
          rintro _ w15_8 ⟨v15_8, raws15_8, g15_8, F15_8, rfl, K⟩
          refine ⟨_, rfl, ?_⟩
          replace H := SH.call H K
          clear K
          try dsimp only [replC, List.cons_append, List.nil_append, List.append_nil] at H
          refine r_move rfl ?_
          refine r_extract rfl (by simp only [upd_get, ev, Nat.reduceEqDiff, ↓reduceIte] <;> rfl) (by simp only [List.getElem?_toArray, List.getElem?_cons_zero, List.getElem?_cons_succ] <;> rfl) ?_
          refine r_extract rfl (by simp only [upd_get, ev, Nat.reduceEqDiff, ↓reduceIte] <;> rfl) (by simp only [List.getElem?_toArray, List.getElem?_cons_zero, List.getElem?_cons_succ] <;> rfl) ?_
          refine r_extract rfl (by simp only [upd_get, ev, Nat.reduceEqDiff, ↓reduceIte] <;> rfl) (by simp only [List.getElem?_toArray, List.getElem?_cons_zero, List.getElem?_cons_succ] <;> rfl) ?_
          refine r_assign rfl ?_
          refine r_assign rfl ?_
          refine r_assign rfl ?_
          refine LW.nil ?_
          refine thenE_norm ?_
          refine cut (K := K19) [0, 3, 4, 5, 9, 10, 11, 13] (fun σ => ?_)
          simp only [setL, keepE, upd_get, ev, Nat.reduceEqDiff, ↓reduceIte]
          refine h19 _ _ ?_; clear h19; try clear K19
          refine CW.seq (fun K20 h20 => ?_)
          refine CW.region ?_
          refine r_move rfl ?_
          refine r_eql rfl rfl rfl ?_
          refine LW.nil ?_
          refine thenE_norm (h20 _ _ ?_); clear h20; try clear K20
          refine CW.cond rfl (fun hc5 => ?_) (fun hc5 => ?_)
          · try simp only [decide_eq_true_eq, decide_eq_false_iff_not, Bool.and_eq_true, Bool.or_eq_true, Bool.and_eq_false_iff, Bool.or_eq_false_iff, Bool.not_eq_true', Bool.not_eq_false', beq_iff_eq, bne_iff_ne, ne_eq, Decidable.not_not] at hc5
            refine CW.region ?_
            refine r_move rfl ?_
            refine r_assign rfl ?_
            refine r_assign rfl ?_
            refine LW.nil ?_
            refine blockE_norm ?_
            refine thenE_norm ?_
            have H2 := SH.freezeP (SH.freeze H (i := 4) rfl) (i := 5) rfl lks_st
            exact ⟨rfl, _, _, _, _, _, _, rfl, (take_stp hok hns (by omega) ht0 (by omega)).1 hc5, SH.sel H2 [0, 1, 2, 4, 5] (by decide) rfl⟩
          · try simp only [decide_eq_true_eq, decide_eq_false_iff_not, Bool.and_eq_true, Bool.or_eq_true, Bool.and_eq_false_iff, Bool.or_eq_false_iff, Bool.not_eq_true', Bool.not_eq_false', beq_iff_eq, bne_iff_ne, ne_eq, Decidable.not_not] at hc5
            refine CW.seq (fun K21 h21 => ?_)
            refine CW.region ?_
            refine r_move rfl ?_
            refine r_eql rfl rfl rfl ?_
            refine LW.nil ?_
            refine thenE_norm (h21 _ _ ?_); clear h21; try clear K21
            refine CW.cond rfl (fun hc6 => ?_) (fun hc6 => ?_)
            · try simp only [decide_eq_true_eq, decide_eq_false_iff_not, Bool.and_eq_true, Bool.or_eq_true, Bool.and_eq_false_iff, Bool.or_eq_false_iff, Bool.not_eq_true', Bool.not_eq_false', beq_iff_eq, bne_iff_ne, ne_eq, Decidable.not_not] at hc6
              refine CW.region ?_
              refine r_move rfl ?_
              refine r_assign rfl ?_
              refine LW.nil ?_
              refine blockE_norm ?_
              refine thenE_norm ?_
              have H2 := SH.freezeP (SH.freeze H (i := 4) rfl) (i := 5) rfl lks_st
              exact ⟨rfl, _, _, _, _, _, _, rfl, (take_stp hok hns (by omega) ht0 (by omega)).2 hc6, SH.sel H2 [0, 1, 2, 4, 5] (by decide) rfl⟩
            · try simp only [decide_eq_true_eq, decide_eq_false_iff_not, Bool.and_eq_true, Bool.or_eq_true, Bool.and_eq_false_iff, Bool.or_eq_false_iff, Bool.not_eq_true', Bool.not_eq_false', beq_iff_eq, bne_iff_ne, ne_eq, Decidable.not_not] at hc6
              refine CW.skip ?_
              refine blockE_norm ?_
              refine thenE_norm ?_
              have H2 := SH.shareI (SH.share H (i := 1) rfl (SH.rsR H (i := 1) rfl)) (i := 2) rfl lks_st (SH.propI H (i := 2) rfl)
              exact ⟨rfl, u, raws, ms, 0, FU, FL, rfl, stp_same hok, SH.sel H2 [0, 1, 2, 6, 7] (by decide) rfl⟩
        · try simp only [decide_eq_true_eq, decide_eq_false_iff_not, Bool.and_eq_true, Bool.or_eq_true, Bool.and_eq_false_iff, Bool.or_eq_false_iff, Bool.not_eq_true', Bool.not_eq_false', beq_iff_eq, bne_iff_ne, ne_eq, Decidable.not_not] at hc3
          refine CW.region ?_
          refine r_eql rfl rfl rfl ?_
          refine r_assign rfl ?_
          refine LW.nil ?_
          refine thenE_norm (h17 _ _ ?_); clear h17; try clear K17
          refine CW.cond rfl (fun hc4 => ?_) (fun hc4 => ?_)
          · try simp only [decide_eq_true_eq, decide_eq_false_iff_not, Bool.and_eq_true, Bool.or_eq_true, Bool.and_eq_false_iff, Bool.or_eq_false_iff, Bool.not_eq_true', Bool.not_eq_false', beq_iff_eq, bne_iff_ne, ne_eq, Decidable.not_not] at hc4
            refine CW.seq (fun K22 h22 => ?_)
            refine CW.region ?_
            refine r_move rfl ?_
            refine r_move rfl ?_
            refine r_move rfl ?_
            refine r_move rfl ?_
            refine r_fieldAddrO rfl Try.underlying65 rfl Try.sizeOf5 (by decide) (show _ = 0 from rfl) rfl ?_
            refine r_load rfl Try.isAgg5 rfl (by first | exact SH.cellB H (by (repeat first | exact At.here | apply At.there); done) (by rfl) | assumption) ?_
            refine r_rem rfl rfl rfl (by omega) (by omega) (wr_u8 (by omega) (by omega)) ?_
            refine r_eql rfl rfl rfl ?_
            refine r_call rfl Try.call32 (by simp only [List.map_cons, List.map_nil, List.map_toArray, List.toList_toArray, upd_get, ev, Nat.reduceEqDiff, ↓reduceIte] <;> rfl) (TakeK_c _ _ _ _ _ (SH.rsR H (i := 1) rfl) (SH.propI H (i := 2) rfl) (by omega) hsh hok.up (by omega) (by omega)) ?_
            rintro _ w15_8 ⟨v15_8, raws15_8, g15_8, F15_8, rfl, K⟩
            refine ⟨_, rfl, ?_⟩
            replace H := SH.call H K
            clear K
            try dsimp only [replC, List.cons_append, List.nil_append, List.append_nil] at H
            refine r_move rfl ?_
            refine r_extract rfl (by simp only [upd_get, ev, Nat.reduceEqDiff, ↓reduceIte] <;> rfl) (by simp only [List.getElem?_toArray, List.getElem?_cons_zero, List.getElem?_cons_succ] <;> rfl) ?_
            refine r_extract rfl (by simp only [upd_get, ev, Nat.reduceEqDiff, ↓reduceIte] <;> rfl) (by simp only [List.getElem?_toArray, List.getElem?_cons_zero, List.getElem?_cons_succ] <;> rfl) ?_
            refine r_extract rfl (by simp only [upd_get, ev, Nat.reduceEqDiff, ↓reduceIte] <;> rfl) (by simp only [List.getElem?_toArray, List.getElem?_cons_zero, List.getElem?_cons_succ] <;> rfl) ?_
            refine r_assign rfl ?_
            refine r_assign rfl ?_
            refine r_assign rfl ?_
            refine LW.nil ?_
            refine thenE_norm ?_
            refine cut (K := K22) [0, 3, 4, 5, 9, 10, 11, 13] (fun σ => ?_)
            simp only [setL, keepE, upd_get, ev, Nat.reduceEqDiff, ↓reduceIte]
            refine h22 _ _ ?_; clear h22; try clear K22
            refine CW.seq (fun K23 h23 => ?_)
            refine CW.region ?_
            refine r_move rfl ?_
            refine r_eql rfl rfl rfl ?_
            refine LW.nil ?_
            refine thenE_norm (h23 _ _ ?_); clear h23; try clear K23
            refine CW.cond rfl (fun hc5 => ?_) (fun hc5 => ?_)
            · try simp only [decide_eq_true_eq, decide_eq_false_iff_not, Bool.and_eq_true, Bool.or_eq_true, Bool.and_eq_false_iff, Bool.or_eq_false_iff, Bool.not_eq_true', Bool.not_eq_false', beq_iff_eq, bne_iff_ne, ne_eq, Decidable.not_not] at hc5
              refine CW.region ?_
              refine r_move rfl ?_
              refine r_assign rfl ?_
              refine r_assign rfl ?_
              refine LW.nil ?_
              refine blockE_norm ?_
              refine thenE_norm ?_
              have H2 := SH.freezeP (SH.freeze H (i := 4) rfl) (i := 5) rfl lks_st
              exact ⟨rfl, _, _, _, _, _, _, rfl, (take_stp hok hns (by omega) ht0 (by omega)).1 hc5, SH.sel H2 [0, 1, 2, 4, 5] (by decide) rfl⟩
            · try simp only [decide_eq_true_eq, decide_eq_false_iff_not, Bool.and_eq_true, Bool.or_eq_true, Bool.and_eq_false_iff, Bool.or_eq_false_iff, Bool.not_eq_true', Bool.not_eq_false', beq_iff_eq, bne_iff_ne, ne_eq, Decidable.not_not] at hc5
              refine CW.seq (fun K24 h24 => ?_)
              refine CW.region ?_
              refine r_move rfl ?_
              refine r_eql rfl rfl rfl ?_
              refine LW.nil ?_
              refine thenE_norm (h24 _ _ ?_); clear h24; try clear K24
              refine CW.cond rfl (fun hc6 => ?_) (fun hc6 => ?_)
              · try simp only [decide_eq_true_eq, decide_eq_false_iff_not, Bool.and_eq_true, Bool.or_eq_true, Bool.and_eq_false_iff, Bool.or_eq_false_iff, Bool.not_eq_true', Bool.not_eq_false', beq_iff_eq, bne_iff_ne, ne_eq, Decidable.not_not] at hc6
                refine CW.region ?_
                refine r_move rfl ?_
                refine r_assign rfl ?_
                refine LW.nil ?_
                refine blockE_norm ?_
                refine thenE_norm ?_
                have H2 := SH.freezeP (SH.freeze H (i := 4) rfl) (i := 5) rfl lks_st
                exact ⟨rfl, _, _, _, _, _, _, rfl, (take_stp hok hns (by omega) ht0 (by omega)).2 hc6, SH.sel H2 [0, 1, 2, 4, 5] (by decide) rfl⟩
              · try simp only [decide_eq_true_eq, decide_eq_false_iff_not, Bool.and_eq_true, Bool.or_eq_true, Bool.and_eq_false_iff, Bool.or_eq_false_iff, Bool.not_eq_true', Bool.not_eq_false', beq_iff_eq, bne_iff_ne, ne_eq, Decidable.not_not] at hc6
                refine CW.skip ?_
                refine blockE_norm ?_
                refine thenE_norm ?_
                have H2 := SH.shareI (SH.share H (i := 1) rfl (SH.rsR H (i := 1) rfl)) (i := 2) rfl lks_st (SH.propI H (i := 2) rfl)
                exact ⟨rfl, u, raws, ms, 0, FU, FL, rfl, stp_same hok, SH.sel H2 [0, 1, 2, 6, 7] (by decide) rfl⟩
          · try simp only [decide_eq_true_eq, decide_eq_false_iff_not, Bool.and_eq_true, Bool.or_eq_true, Bool.and_eq_false_iff, Bool.or_eq_false_iff, Bool.not_eq_true', Bool.not_eq_false', beq_iff_eq, bne_iff_ne, ne_eq, Decidable.not_not] at hc4
            refine CW.seq (fun K25 h25 => ?_)
            refine CW.region ?_
            refine r_eql rfl rfl rfl ?_
            refine r_assign rfl ?_
            refine LW.nil ?_
            refine thenE_norm (h25 _ _ ?_); clear h25; try clear K25
            refine CW.cond rfl (fun hc7 => ?_) (fun hc7 => ?_)
            · try simp only [decide_eq_true_eq, decide_eq_false_iff_not, Bool.and_eq_true, Bool.or_eq_true, Bool.and_eq_false_iff, Bool.or_eq_false_iff, Bool.not_eq_true', Bool.not_eq_false', beq_iff_eq, bne_iff_ne, ne_eq, Decidable.not_not] at hc7
              refine CW.seq (fun K26 h26 => ?_)
              refine CW.region ?_
              refine r_move rfl ?_
              refine r_move rfl ?_
              refine r_move rfl ?_
              refine r_move rfl ?_
              refine r_call rfl Try.call33 (by simp only [List.map_cons, List.map_nil, List.map_toArray, List.toList_toArray, upd_get, ev, Nat.reduceEqDiff, ↓reduceIte] <;> rfl) (FreeK_c _ _ _ _ (SH.rsR H (i := 1) rfl) (SH.propI H (i := 2) rfl) (by omega) hsh hok.up (by omega) (by omega)) ?_
              rintro _ w21_4 ⟨v21_4, raws21_4, g21_4, F21_4, rfl, K⟩
              refine ⟨_, rfl, ?_⟩
              replace H := SH.call H K
              clear K
              try dsimp only [replC, List.cons_append, List.nil_append, List.append_nil] at H
              refine r_move rfl ?_
              refine r_extract rfl (by simp only [upd_get, ev, Nat.reduceEqDiff, ↓reduceIte] <;> rfl) (by simp only [List.getElem?_toArray, List.getElem?_cons_zero, List.getElem?_cons_succ] <;> rfl) ?_
              refine r_extract rfl (by simp only [upd_get, ev, Nat.reduceEqDiff, ↓reduceIte] <;> rfl) (by simp only [List.getElem?_toArray, List.getElem?_cons_zero, List.getElem?_cons_succ] <;> rfl) ?_
              refine r_extract rfl (by simp only [upd_get, ev, Nat.reduceEqDiff, ↓reduceIte] <;> rfl) (by simp only [List.getElem?_toArray, List.getElem?_cons_zero, List.getElem?_cons_succ] <;> rfl) ?_
              refine r_assign rfl ?_
              refine r_assign rfl ?_
              refine r_assign rfl ?_
              refine LW.nil ?_
              refine thenE_norm ?_
              refine cut (K := K26) [0, 3, 4, 5, 9, 10, 14, 15, 16] (fun σ => ?_)
              simp only [setL, keepE, upd_get, ev, Nat.reduceEqDiff, ↓reduceIte]
              refine h26 _ _ ?_; clear h26; try clear K26
              refine CW.seq (fun K27 h27 => ?_)
              refine CW.region ?_
              refine r_move rfl ?_
              refine r_eql rfl rfl rfl ?_
              refine LW.nil ?_
              refine thenE_norm (h27 _ _ ?_); clear h27; try clear K27
              refine CW.cond rfl (fun hc8 => ?_) (fun hc8 => ?_)
              · try simp only [decide_eq_true_eq, decide_eq_false_iff_not, Bool.and_eq_true, Bool.or_eq_true, Bool.and_eq_false_iff, Bool.or_eq_false_iff, Bool.not_eq_true', Bool.not_eq_false', beq_iff_eq, bne_iff_ne, ne_eq, Decidable.not_not] at hc8
                refine CW.region ?_
                refine r_move rfl ?_
                refine r_move rfl ?_
                refine r_assign rfl ?_
                refine r_assign rfl ?_
                refine LW.nil ?_
                refine blockE_norm ?_
                refine thenE_norm ?_
                have H2 := SH.freezeP (SH.freeze H (i := 4) rfl) (i := 5) rfl lks_st
                exact ⟨rfl, _, _, _, _, _, _, rfl, free_stp hok ht0 (by omega) hc8, SH.sel H2 [0, 1, 2, 4, 5] (by decide) rfl⟩
              · try simp only [decide_eq_true_eq, decide_eq_false_iff_not, Bool.and_eq_true, Bool.or_eq_true, Bool.and_eq_false_iff, Bool.or_eq_false_iff, Bool.not_eq_true', Bool.not_eq_false', beq_iff_eq, bne_iff_ne, ne_eq, Decidable.not_not] at hc8
                refine CW.skip ?_
                refine blockE_norm ?_
                refine thenE_norm ?_
                have H2 := SH.shareI (SH.share H (i := 1) rfl (SH.rsR H (i := 1) rfl)) (i := 2) rfl lks_st (SH.propI H (i := 2) rfl)
                exact ⟨rfl, u, raws, ms, 0, FU, FL, rfl, stp_same hok, SH.sel H2 [0, 1, 2, 6, 7] (by decide) rfl⟩
            · try simp only [decide_eq_true_eq, decide_eq_false_iff_not, Bool.and_eq_true, Bool.or_eq_true, Bool.and_eq_false_iff, Bool.or_eq_false_iff, Bool.not_eq_true', Bool.not_eq_false', beq_iff_eq, bne_iff_ne, ne_eq, Decidable.not_not] at hc7
              refine CW.region ?_
              refine r_move rfl ?_
              refine r_fieldAddrO rfl Try.underlying65 rfl Try.sizeOf5 (by decide) (show _ = 2 from rfl) rfl ?_
              refine r_load rfl Try.isAgg5 rfl (by first | exact SH.cellB H (by (repeat first | exact At.here | apply At.there); done) (by rfl) | assumption) ?_
              refine r_call rfl Try.call39 (by simp only [List.map_cons, List.map_nil, List.map_toArray, List.toList_toArray, upd_get, ev, Nat.reduceEqDiff, ↓reduceIte] <;> rfl) (clients_c _ _ (by omega) (by omega)) ?_
              rintro _ w12_3 ⟨v12_3, g12_3, rfl, K⟩
              refine ⟨_, rfl, ?_⟩
              replace H := SH.call H K
              clear K
              try dsimp only [replC, List.cons_append, List.nil_append, List.append_nil] at H
              refine r_move rfl ?_
              refine r_call rfl Try.call38 (by simp only [List.map_cons, List.map_nil, List.map_toArray, List.toList_toArray, upd_get, ev, Nat.reduceEqDiff, ↓reduceIte] <;> rfl) (DropK_c _ _ (SH.rsR H (i := 1) rfl) (SH.rsO H (i := 4) rfl) (SH.propI H (i := 2) rfl) (by omega) hsh (by omega) (by omega)) ?_
              rintro _ w12_5 ⟨v12_5, raws12_5, g12_5, F12_5, rfl, K⟩
              refine ⟨_, rfl, ?_⟩
              replace H := SH.call H K
              clear K
              try dsimp only [replC, List.cons_append, List.nil_append, List.append_nil] at H
              refine r_move rfl ?_
              refine r_extract rfl (by simp only [upd_get, ev, Nat.reduceEqDiff, ↓reduceIte] <;> rfl) (by simp only [List.getElem?_toArray, List.getElem?_cons_zero, List.getElem?_cons_succ] <;> rfl) ?_
              refine r_extract rfl (by simp only [upd_get, ev, Nat.reduceEqDiff, ↓reduceIte] <;> rfl) (by simp only [List.getElem?_toArray, List.getElem?_cons_zero, List.getElem?_cons_succ] <;> rfl) ?_
              refine r_assign rfl ?_
              refine r_assign rfl ?_
              refine LW.nil ?_
              refine blockE_norm ?_
              refine thenE_norm ?_
              have H2 := SH.freezeP (SH.freeze H (i := 5) rfl) (i := 6) rfl lks_st
              exact ⟨rfl, _, _, _, _, _, _, rfl, drop_stp hok ht0 (by omega), SH.sel H2 [0, 1, 2, 5, 6] (by decide) rfl⟩
      try clear H
      rintro vs wJ σ ⟨u', raws', ns, given, FU', FL', rfl, hst, H⟩
      simp only [setL, keepE, upd_get, ev, Nat.reduceEqDiff, ↓reduceIte]
      have hm' : All2 (LkR FL' _) raws' ns := SH.propI H (i := 4) rfl
      have hrl' : raws'.length = ns.length := All2.len hm'
      have hl4' := hst.ok.len
      have hnum := hst.num
      have hg4 := hst.g4
      refine CW.seq (fun K28 h28 => ?_)
      refine CW.region ?_
      refine r_assign rfl ?_
      refine LW.nil ?_
      refine thenE_norm (h28 _ _ ?_); clear h28; try clear K28
      refine CW.seq (fun K29 h29 => ?_)
      refine CW.seq (fun K30 h30 => ?_)
      refine CW.region ?_
      refine r_assign rfl ?_
      refine LW.nil ?_
      refine thenE_norm (h30 _ _ ?_); clear h30; try clear K30
      refine CW.block ?_
      refine CW.loopR [0, 3, 4, 5, 9, 10] [17, 18] (fun m vs w' => ∃ k : Nat, vs = [.int .i64 ((freshN tok (ns.take k) : Nat) : Int), .int .i64 k] ∧ k ≤ raws'.length ∧ m = raws'.length - k ∧ SH Non Any w w' [.R (Old w) v acts, .R FU u raws, .I FL (LksA FL raws ms), .R FU' u' raws', .I FL' (LksA FL' raws' ns)]) (raws'.length) ?_ ?_
      · exact ⟨0, rfl, by omega, by omega, H⟩
      try clear H
      rintro n2 vs2 wL2 σ ⟨k, rfl, hk, rfl, H⟩
      simp only [setL, keepE, upd_get, ev, Nat.reduceEqDiff, ↓reduceIte]
      refine CW.seq (fun K31 h31 => ?_)
      refine CW.seq (fun K32 h32 => ?_)
      refine CW.region ?_
      refine r_move rfl ?_
      refine r_move rfl ?_
      first
        | refine r_lenV rfl Try.underlying48 (by simp only [upd_get, ev, Nat.reduceEqDiff, ↓reduceIte] <;> rfl) (by first | assumption | exact SH.rsR H (by (repeat first | exact At.here | apply At.there); done) | exact SH.rsO H (by (repeat first | exact At.here | apply At.there); done) | exact (Rs.nil : Rs Non _ _ _)) ?_
        | refine r_len rfl Try.underlying48 rfl ?_
      refine r_lss rfl rfl rfl ?_
      refine LW.nil ?_
      refine thenE_norm (h32 _ _ ?_); clear h32; try clear K32
      refine CW.cond rfl (fun hc9 => ?_) (fun hc9 => ?_)
      · try simp only [decide_eq_true_eq, decide_eq_false_iff_not, Bool.and_eq_true, Bool.or_eq_true, Bool.and_eq_false_iff, Bool.or_eq_false_iff, Bool.not_eq_true', Bool.not_eq_false', beq_iff_eq, bne_iff_ne, ne_eq, Decidable.not_not] at hc9
        refine CW.skip ?_
        refine thenE_norm (h31 _ _ ?_); clear h31; try clear K31
        refine CW.seq (fun K33 h33 => ?_)
        refine CW.block ?_
        refine CW.seq (fun K34 h34 => ?_)
        obtain ⟨r, hr⟩ := get_of_lt (show k < raws'.length by omega)
        obtain ⟨m, hm, hrm⟩ := All2.get hm' hr
        obtain ⟨e1, e2, e3, -⟩ := hrm
        have hmn := List.mem_of_getElem? hm
        obtain ⟨hU1, hU2⟩ := Stp.upd hok hst hmn
        have hmt := (hst.ok.all m hmn).2
        have hsn := fresh_snoc (tok := tok) hm
        have hfl := fresh_le tok (ns.take k)
        have htl : (ns.take k).length ≤ 4 := by rw [List.length_take]; omega
        rw [← e1, ← e3] at hU1 hU2
        rw [← e2] at hU2
        rw [← e3] at hmt hsn
        refine CW.region ?_
        refine r_move rfl ?_
        refine r_move rfl ?_
        refine r_move rfl ?_
        refine r_indexAddrV rfl Try.underlying48 (by simp only [upd_get, ev, Nat.reduceEqDiff, ↓reduceIte] <;> rfl) rfl (by first | assumption | exact SH.rsR H (by (repeat first | exact At.here | apply At.there); done) | exact SH.rsO H (by (repeat first | exact At.here | apply At.there); done) | exact (Rs.nil : Rs Non _ _ _)) (by exact Try.sizeOf53) (by omega) (by omega) ?_
        refine r_fieldAddrO rfl Try.underlying53 rfl Try.sizeOf9 (by decide) (show _ + 0 = _ from rfl) rfl ?_
        refine r_load rfl Try.isAgg9 rfl (by first | exact Rs.cell (by first | assumption | exact SH.rsR H (by (repeat first | exact At.here | apply At.there); done) | exact SH.rsO H (by (repeat first | exact At.here | apply At.there); done) | exact (Rs.nil : Rs Non _ _ _)) (by assumption) (by rfl) | exact Rs.cell0 (by first | assumption | exact SH.rsR H (by (repeat first | exact At.here | apply At.there); done) | exact SH.rsO H (by (repeat first | exact At.here | apply At.there); done) | exact (Rs.nil : Rs Non _ _ _)) (by assumption) (by rfl) | assumption) ?_
        refine r_call rfl Try.call30 (by simp only [List.map_cons, List.map_nil, List.map_toArray, List.toList_toArray, upd_get, ev, Nat.reduceEqDiff, ↓reduceIte] <;> rfl) (FindK_c _ _ (SH.rsR H (i := 1) rfl) (SH.propI H (i := 2) rfl) (by omega) hsh hok.up) ?_
        rintro _ w28_6 ⟨v28_6, g28_6, rfl, K⟩
        refine ⟨_, rfl, ?_⟩
        replace H := SH.call H K
        clear K
        try dsimp only [replC, List.cons_append, List.nil_append, List.append_nil] at H
        refine r_move rfl ?_
        refine r_extract rfl (by simp only [upd_get, ev, Nat.reduceEqDiff, ↓reduceIte] <;> rfl) (by simp only [List.getElem?_toArray, List.getElem?_cons_zero, List.getElem?_cons_succ] <;> rfl) ?_
        refine r_extract rfl (by simp only [upd_get, ev, Nat.reduceEqDiff, ↓reduceIte] <;> rfl) (by simp only [List.getElem?_toArray, List.getElem?_cons_zero, List.getElem?_cons_succ] <;> rfl) ?_
        refine s_alloc (cs := [.string (ByteArray.mk #[]), .int .i64 0, .int .i64 0, .slice none 0 0]) H rfl Try.zeroValue53 rfl ?_
        clear H
        intro b28_10 w28_10 H
        try dsimp only [replC, List.cons_append, List.nil_append, List.append_nil, agg, cellsL, Value.cells, List.toList_toArray, List.set_cons_zero, List.set_cons_succ, spliceL, List.take_succ_cons, List.take_zero, List.drop_succ_cons, List.drop_zero, List.length_cons, List.length_nil, Nat.reduceAdd, Row.cells, Gr.L, Lk.L, Act8.L] at H
        refine s_storeA H Try.sizeOf53 rfl (by simp only [upd_get, ev, Nat.reduceEqDiff, ↓reduceIte] <;> rfl) (by simp only [cellsL, agg, List.toList_toArray, Row.cells, Gr.L, Lk.L, Act8.L] <;> rfl) (by rfl) (by first | rfl | assumption | exact Rs.oneC (by first | assumption | exact SH.rsR H (by (repeat first | exact At.here | apply At.there); done) | exact SH.rsO H (by (repeat first | exact At.here | apply At.there); done) | exact (Rs.nil : Rs Non _ _ _)) | (simp only [List.all_cons, List.all_nil, Bool.and_true, Bool.and_eq_true, Row.cells, Gr.L, Lk.L, Act8.L]; (repeat' constructor) <;> first | rfl | assumption | exact Rs.oneC (by first | assumption | exact SH.rsR H (by (repeat first | exact At.here | apply At.there); done) | exact SH.rsO H (by (repeat first | exact At.here | apply At.there); done) | exact (Rs.nil : Rs Non _ _ _)))) (by (repeat first | exact At.here | apply At.there); done) (by first | (simp; done) | decide | (show _ ≤ _; decide)) ?_
        clear H
        intro w28_11 H
        try dsimp only [replC, List.cons_append, List.nil_append, List.append_nil, agg, cellsL, Value.cells, List.toList_toArray, List.set_cons_zero, List.set_cons_succ, spliceL, List.take_succ_cons, List.take_zero, List.drop_succ_cons, List.drop_zero, List.length_cons, List.length_nil, Nat.reduceAdd, Row.cells, Gr.L, Lk.L, Act8.L] at H
        refine r_assign rfl ?_
        refine LW.nil ?_
        refine thenE_norm ?_
        refine cut (K := K34) [0, 3, 4, 5, 9, 10, 17, 18, 19, 20] (fun σ => ?_)
        simp only [setL, keepE, upd_get, ev, Nat.reduceEqDiff, ↓reduceIte]
        refine h34 _ _ ?_; clear h34; try clear K34
        refine CW.seq (fun K35 h35 => ?_)
        refine CW.seq (fun K36 h36 => ?_)
        refine CW.drawP [3, 6] [] H (by dsimp only [pickC, nthC] <;> rfl) (by repeat first | exact List.Sublist.refl _ | exact List.nil_sublist _ | apply List.Sublist.cons_cons | apply List.Sublist.cons) (by kernel_rfl) rfl ?_
        clear H
        intro w29d H
        refine DL.take (i := 0) [] rfl (by kernel_rfl) (by kernel_rfl) (by kernel_rfl) (by kernel_rfl) rfl rfl (fun u H => x_move ) (SH.sub H (by repeat first | exact List.Sublist.refl _ | exact List.nil_sublist _ | apply List.Sublist.cons_cons | apply List.Sublist.cons)) ?_
        refine DL.take (i := 1) [] rfl (by kernel_rfl) (by kernel_rfl) (by kernel_rfl) (by kernel_rfl) rfl rfl (fun u H => x_move ) (SH.sub H (by repeat first | exact List.Sublist.refl _ | exact List.nil_sublist _ | apply List.Sublist.cons_cons | apply List.Sublist.cons)) ?_
        refine DL.splitB (t := 109) rfl (fun hg29_1 => ?_) (fun hg29_1 => ?_)
        · have hg29_1P := hg29_1
          try simp only [decide_eq_true_eq, decide_eq_false_iff_not, Bool.and_eq_true, Bool.or_eq_true, Bool.and_eq_false_iff, Bool.or_eq_false_iff, Bool.not_eq_true', Bool.not_eq_false', beq_iff_eq, bne_iff_ne, ne_eq, Decidable.not_not] at hg29_1P
          refine DL.take (i := 2) [] rfl (by kernel_rfl) (by kernel_rfl) (by kernel_rfl) (by kernel_rfl) rfl (wantE rfl rfl hg29_1) (fun u H => x_fieldAddrO Try.underlying53 rfl Try.sizeOf3 (by decide) (show _ = 2 from rfl) rfl) (SH.sub H (by repeat first | exact List.Sublist.refl _ | exact List.nil_sublist _ | apply List.Sublist.cons_cons | apply List.Sublist.cons)) ?_
          refine DL.take (i := 3) [] rfl (by kernel_rfl) (by kernel_rfl) (by kernel_rfl) (by kernel_rfl) rfl (wantE rfl rfl hg29_1) (fun u H => x_load Try.isAgg3 rfl (by first | exact SH.cellB H (by (repeat first | exact At.here | apply At.there); done) (by rfl) | assumption)) (SH.sub H (by repeat first | exact List.Sublist.refl _ | exact List.nil_sublist _ | apply List.Sublist.cons_cons | apply List.Sublist.cons)) ?_
          refine DL.take (i := 4) [] rfl (by kernel_rfl) (by kernel_rfl) (by kernel_rfl) (by kernel_rfl) rfl (wantE rfl rfl hg29_1) (fun u H => x_move ) (SH.sub H (by repeat first | exact List.Sublist.refl _ | exact List.nil_sublist _ | apply List.Sublist.cons_cons | apply List.Sublist.cons)) ?_
          refine DL.take (i := 5) [] rfl (by kernel_rfl) (by kernel_rfl) (by kernel_rfl) (by kernel_rfl) rfl (wantE rfl rfl hg29_1) (fun u H => x_move ) (SH.sub H (by repeat first | exact List.Sublist.refl _ | exact List.nil_sublist _ | apply List.Sublist.cons_cons | apply List.Sublist.cons)) ?_
          refine DL.take (i := 6) [] rfl (by kernel_rfl) (by kernel_rfl) (by kernel_rfl) (by kernel_rfl) rfl (wantE rfl rfl hg29_1) (fun u H => x_indexAddrV Try.underlying48 (by simp only [upd_get, ev, Nat.reduceEqDiff, ↓reduceIte] <;> rfl) rfl (by first | assumption | exact SH.rsR H (by (repeat first | exact At.here | apply At.there); done) | exact SH.rsO H (by (repeat first | exact At.here | apply At.there); done) | exact (Rs.nil : Rs Non _ _ _)) (by exact Try.sizeOf53) (by omega) (by omega)) (SH.sub H (by repeat first | exact List.Sublist.refl _ | exact List.nil_sublist _ | apply List.Sublist.cons_cons | apply List.Sublist.cons)) ?_
          refine DL.take (i := 7) [] rfl (by kernel_rfl) (by kernel_rfl) (by kernel_rfl) (by kernel_rfl) rfl (wantE rfl rfl hg29_1) (fun u H => x_fieldAddrO Try.underlying53 rfl Try.sizeOf3 (by decide) (show _ + 2 = _ from rfl) rfl) (SH.sub H (by repeat first | exact List.Sublist.refl _ | exact List.nil_sublist _ | apply List.Sublist.cons_cons | apply List.Sublist.cons)) ?_
          refine DL.take (i := 8) [] rfl (by kernel_rfl) (by kernel_rfl) (by kernel_rfl) (by kernel_rfl) rfl (wantE rfl rfl hg29_1) (fun u H => x_load Try.isAgg3 rfl (by first | exact Rs.cell (o := 2) (by first | assumption | exact SH.rsR H (by (repeat first | exact At.here | apply At.there); done) | exact SH.rsO H (by (repeat first | exact At.here | apply At.there); done) | exact (Rs.nil : Rs Non _ _ _)) (by assumption) (by rfl) | exact Rs.cell0 (by first | assumption | exact SH.rsR H (by (repeat first | exact At.here | apply At.there); done) | exact SH.rsO H (by (repeat first | exact At.here | apply At.there); done) | exact (Rs.nil : Rs Non _ _ _)) (by assumption) (by rfl) | assumption)) (SH.sub H (by repeat first | exact List.Sublist.refl _ | exact List.nil_sublist _ | apply List.Sublist.cons_cons | apply List.Sublist.cons)) ?_
          refine DL.take (i := 9) [] rfl (by kernel_rfl) (by kernel_rfl) (by kernel_rfl) (by kernel_rfl) rfl (wantE rfl rfl hg29_1) (fun u H => x_eql rfl rfl) (SH.sub H (by repeat first | exact List.Sublist.refl _ | exact List.nil_sublist _ | apply List.Sublist.cons_cons | apply List.Sublist.cons)) ?_
          refine DL.take (i := 10) [] rfl (by kernel_rfl) (by kernel_rfl) (by kernel_rfl) (by kernel_rfl) rfl rfl (fun u H => x_pickT rfl hg29_1) (SH.sub H (by repeat first | exact List.Sublist.refl _ | exact List.nil_sublist _ | apply List.Sublist.cons_cons | apply List.Sublist.cons)) ?_
          refine DL.done (by kernel_rfl) ?_
          refine thenE_norm ?_
          refine cut (K := K36) [0, 3, 4, 5, 9, 10, 17, 18, 19, 118] (fun σ => ?_)
          simp only [setL, keepE, upd_get, ev, Nat.reduceEqDiff, ↓reduceIte]
          refine h36 _ _ ?_; clear h36; try clear K36
          refine CW.cond rfl (fun hc10 => ?_) (fun hc10 => ?_)
          · try simp only [decide_eq_true_eq, decide_eq_false_iff_not, Bool.and_eq_true, Bool.or_eq_true, Bool.and_eq_false_iff, Bool.or_eq_false_iff, Bool.not_eq_true', Bool.not_eq_false', beq_iff_eq, bne_iff_ne, ne_eq, Decidable.not_not] at hc10
            refine CW.seq (fun K37 h37 => ?_)
            refine CW.seq (fun K38 h38 => ?_)
            refine CW.drawP [3, 6] [] H (by dsimp only [pickC, nthC] <;> rfl) (by repeat first | exact List.Sublist.refl _ | exact List.nil_sublist _ | apply List.Sublist.cons_cons | apply List.Sublist.cons) (by kernel_rfl) rfl ?_
            clear H
            intro w30d H
            refine DL.take (i := 0) [] rfl (by kernel_rfl) (by kernel_rfl) (by kernel_rfl) (by kernel_rfl) rfl rfl (fun u H => x_fieldAddrO Try.underlying53 rfl Try.sizeOf3 (by decide) (show _ = 1 from rfl) rfl) (SH.sub H (by repeat first | exact List.Sublist.refl _ | exact List.nil_sublist _ | apply List.Sublist.cons_cons | apply List.Sublist.cons)) ?_
            refine DL.take (i := 1) [] rfl (by kernel_rfl) (by kernel_rfl) (by kernel_rfl) (by kernel_rfl) rfl rfl (fun u H => x_load Try.isAgg3 rfl (by first | exact SH.cellB H (by (repeat first | exact At.here | apply At.there); done) (by rfl) | assumption)) (SH.sub H (by repeat first | exact List.Sublist.refl _ | exact List.nil_sublist _ | apply List.Sublist.cons_cons | apply List.Sublist.cons)) ?_
            refine DL.take (i := 2) [] rfl (by kernel_rfl) (by kernel_rfl) (by kernel_rfl) (by kernel_rfl) rfl rfl (fun u H => x_move ) (SH.sub H (by repeat first | exact List.Sublist.refl _ | exact List.nil_sublist _ | apply List.Sublist.cons_cons | apply List.Sublist.cons)) ?_
            refine DL.take (i := 3) [] rfl (by kernel_rfl) (by kernel_rfl) (by kernel_rfl) (by kernel_rfl) rfl rfl (fun u H => x_move ) (SH.sub H (by repeat first | exact List.Sublist.refl _ | exact List.nil_sublist _ | apply List.Sublist.cons_cons | apply List.Sublist.cons)) ?_
            refine DL.take (i := 4) [] rfl (by kernel_rfl) (by kernel_rfl) (by kernel_rfl) (by kernel_rfl) rfl rfl (fun u H => x_indexAddrV Try.underlying48 (by simp only [upd_get, ev, Nat.reduceEqDiff, ↓reduceIte] <;> rfl) rfl (by first | assumption | exact SH.rsR H (by (repeat first | exact At.here | apply At.there); done) | exact SH.rsO H (by (repeat first | exact At.here | apply At.there); done) | exact (Rs.nil : Rs Non _ _ _)) (by exact Try.sizeOf53) (by omega) (by omega)) (SH.sub H (by repeat first | exact List.Sublist.refl _ | exact List.nil_sublist _ | apply List.Sublist.cons_cons | apply List.Sublist.cons)) ?_
            refine DL.take (i := 5) [] rfl (by kernel_rfl) (by kernel_rfl) (by kernel_rfl) (by kernel_rfl) rfl rfl (fun u H => x_fieldAddrO Try.underlying53 rfl Try.sizeOf3 (by decide) (show _ + 1 = _ from rfl) rfl) (SH.sub H (by repeat first | exact List.Sublist.refl _ | exact List.nil_sublist _ | apply List.Sublist.cons_cons | apply List.Sublist.cons)) ?_
            refine DL.take (i := 6) [] rfl (by kernel_rfl) (by kernel_rfl) (by kernel_rfl) (by kernel_rfl) rfl rfl (fun u H => x_load Try.isAgg3 rfl (by first | exact Rs.cell (o := 1) (by first | assumption | exact SH.rsR H (by (repeat first | exact At.here | apply At.there); done) | exact SH.rsO H (by (repeat first | exact At.here | apply At.there); done) | exact (Rs.nil : Rs Non _ _ _)) (by assumption) (by rfl) | exact Rs.cell0 (by first | assumption | exact SH.rsR H (by (repeat first | exact At.here | apply At.there); done) | exact SH.rsO H (by (repeat first | exact At.here | apply At.there); done) | exact (Rs.nil : Rs Non _ _ _)) (by assumption) (by rfl) | assumption)) (SH.sub H (by repeat first | exact List.Sublist.refl _ | exact List.nil_sublist _ | apply List.Sublist.cons_cons | apply List.Sublist.cons)) ?_
            refine DL.take (i := 7) [] rfl (by kernel_rfl) (by kernel_rfl) (by kernel_rfl) (by kernel_rfl) rfl rfl (fun u H => x_neq rfl rfl) (SH.sub H (by repeat first | exact List.Sublist.refl _ | exact List.nil_sublist _ | apply List.Sublist.cons_cons | apply List.Sublist.cons)) ?_
            refine DL.done (by kernel_rfl) ?_
            refine thenE_norm ?_
            refine cut (K := K38) [0, 3, 4, 5, 9, 10, 17, 18, 126] (fun σ => ?_)
            simp only [setL, keepE, upd_get, ev, Nat.reduceEqDiff, ↓reduceIte]
            refine h38 _ _ ?_; clear h38; try clear K38
            refine CW.condF rfl (by
  rw [decide_eq_false_iff_not, Classical.not_not]
  exact hU2 ⟨hg29_1P, hc10⟩) ?_
            refine CW.skip ?_
            refine thenE_norm (h37 _ _ ?_); clear h37; try clear K37
            refine CW.exit (thenE_exit (blockE_hit ?_))
            refine thenE_norm (h33 _ _ ?_); clear h33; try clear K33
            refine CW.region ?_
            refine r_move rfl ?_
            refine r_add rfl rfl rfl (wr_i64 (by omega) (by omega)) ?_
            refine r_assign rfl ?_
            refine LW.nil ?_
            refine thenE_norm ⟨rfl, ?_⟩
            have hno : ¬ tok < r.token := hU1.1 ⟨hg29_1P, hc10⟩
            exact ⟨raws'.length - (k + 1), by omega, k + 1, by rw [hsn, if_neg hno]; rfl, by omega, rfl, SH.sel H [0, 1, 2, 3, 4] (by decide) rfl⟩
          · try simp only [decide_eq_true_eq, decide_eq_false_iff_not, Bool.and_eq_true, Bool.or_eq_true, Bool.and_eq_false_iff, Bool.or_eq_false_iff, Bool.not_eq_true', Bool.not_eq_false', beq_iff_eq, bne_iff_ne, ne_eq, Decidable.not_not] at hc10
            refine CW.skip ?_
            refine thenE_norm (h35 _ _ ?_); clear h35; try clear K35
            refine CW.seq (fun K39 h39 => ?_)
            refine CW.seq (fun K40 h40 => ?_)
            have hyes : tok < r.token := Classical.not_not.1 fun q => by
              have q2 := hU1.2 q
              first
                | exact hc10 q2.2
                | exact Bool.false_ne_true (hg29_1P.symm.trans q2.1)
            refine CW.region ?_
            refine r_move rfl ?_
            refine r_move rfl ?_
            refine r_indexAddrV rfl Try.underlying48 (by simp only [upd_get, ev, Nat.reduceEqDiff, ↓reduceIte] <;> rfl) rfl (by first | assumption | exact SH.rsR H (by (repeat first | exact At.here | apply At.there); done) | exact SH.rsO H (by (repeat first | exact At.here | apply At.there); done) | exact (Rs.nil : Rs Non _ _ _)) (by exact Try.sizeOf53) (by omega) (by omega) ?_
            refine r_fieldAddrO rfl Try.underlying53 rfl Try.sizeOf3 (by decide) (show _ + 2 = _ from rfl) rfl ?_
            refine r_load rfl Try.isAgg3 rfl (by first | exact Rs.cell (o := 2) (by first | assumption | exact SH.rsR H (by (repeat first | exact At.here | apply At.there); done) | exact SH.rsO H (by (repeat first | exact At.here | apply At.there); done) | exact (Rs.nil : Rs Non _ _ _)) (by assumption) (by rfl) | exact Rs.cell0 (by first | assumption | exact SH.rsR H (by (repeat first | exact At.here | apply At.there); done) | exact SH.rsO H (by (repeat first | exact At.here | apply At.there); done) | exact (Rs.nil : Rs Non _ _ _)) (by assumption) (by rfl) | assumption) ?_
            refine r_move rfl ?_
            refine r_leq rfl rfl rfl ?_
            refine r_move rfl ?_
            refine' LW.grpOr (n := 10) (ts := [0, 3, 4, 5, 9, 10, 17, 18]) (d := 144) (tj := 134) rfl (fun hg32_8 => ?_) (fun hg32_8 => ?_) (fun σ => ?_)
            rotate_left
            · simp only [List.take_succ_cons, List.take_zero]
              have hg32_8P := hg32_8
              try simp only [decide_eq_true_eq, decide_eq_false_iff_not, Bool.and_eq_true, Bool.or_eq_true, Bool.and_eq_false_iff, Bool.or_eq_false_iff, Bool.not_eq_true', Bool.not_eq_false', beq_iff_eq, bne_iff_ne] at hg32_8P
              refine LW.want rfl rfl hg32_8 ?_
              refine r_move rfl ?_
              refine LW.want rfl rfl hg32_8 ?_
              refine r_move rfl ?_
              refine LW.want rfl rfl hg32_8 ?_
              refine r_indexAddrV rfl Try.underlying48 (by simp only [upd_get, ev, Nat.reduceEqDiff, ↓reduceIte] <;> rfl) rfl (by first | assumption | exact SH.rsR H (by (repeat first | exact At.here | apply At.there); done) | exact SH.rsO H (by (repeat first | exact At.here | apply At.there); done) | exact (Rs.nil : Rs Non _ _ _)) (by exact Try.sizeOf53) (by omega) (by omega) ?_
              refine LW.want rfl rfl hg32_8 ?_
              refine r_fieldAddrO rfl Try.underlying53 rfl Try.sizeOf3 (by decide) (show _ + 2 = _ from rfl) rfl ?_
              refine LW.want rfl rfl hg32_8 ?_
              refine r_load rfl Try.isAgg3 rfl (by first | exact Rs.cell (o := 2) (by first | assumption | exact SH.rsR H (by (repeat first | exact At.here | apply At.there); done) | exact SH.rsO H (by (repeat first | exact At.here | apply At.there); done) | exact (Rs.nil : Rs Non _ _ _)) (by assumption) (by rfl) | exact Rs.cell0 (by first | assumption | exact SH.rsR H (by (repeat first | exact At.here | apply At.there); done) | exact SH.rsO H (by (repeat first | exact At.here | apply At.there); done) | exact (Rs.nil : Rs Non _ _ _)) (by assumption) (by rfl) | assumption) ?_
              refine LW.want rfl rfl hg32_8 ?_
              refine r_move rfl ?_
              refine LW.want rfl rfl hg32_8 ?_
              refine r_move rfl ?_
              refine LW.want rfl rfl hg32_8 ?_
              refine r_add rfl rfl rfl (wr_i64 (by omega) (by omega)) ?_
              refine LW.want rfl rfl hg32_8 ?_
              refine r_gtr rfl rfl rfl ?_
              refine r_pickF rfl rfl hg32_8 ?_
              refine LW.nil (thenE_norm ⟨rfl, rfl, rfl⟩)
            · simp only [List.take_succ_cons, List.take_zero]
              refine LW.skip rfl (fun _ e => by cases e; decide) rfl hg32_8 ?_
              refine LW.skip rfl (fun _ e => by cases e; decide) rfl hg32_8 ?_
              refine LW.skip rfl (fun _ e => by cases e; decide) rfl hg32_8 ?_
              refine LW.skip rfl (fun _ e => by cases e; decide) rfl hg32_8 ?_
              refine LW.skip rfl (fun _ e => by cases e; decide) rfl hg32_8 ?_
              refine LW.skip rfl (fun _ e => by cases e; decide) rfl hg32_8 ?_
              refine LW.skip rfl (fun _ e => by cases e; decide) rfl hg32_8 ?_
              refine LW.skip rfl (fun _ e => by cases e; decide) rfl hg32_8 ?_
              refine LW.skip rfl (fun _ e => by cases e; decide) rfl hg32_8 ?_
              refine r_pickT rfl rfl hg32_8 ?_
              refine LW.nil (thenE_norm ⟨rfl, rfl, rfl⟩)
            simp only [setL, keepE, upd_get, ev, Nat.reduceEqDiff, ↓reduceIte]; simp only [List.drop_succ_cons, List.drop_zero]
            refine LW.nil ?_
            refine thenE_norm (h40 _ _ ?_); clear h40; try clear K40
            refine CW.condF rfl (by simp; omega) ?_
            refine CW.skip ?_
            refine thenE_norm (h39 _ _ ?_); clear h39; try clear K39
            refine CW.region ?_
            refine r_move rfl ?_
            refine r_add rfl rfl rfl (wr_i64 (by omega) (by omega)) ?_
            refine r_assign rfl ?_
            refine LW.nil ?_
            refine blockE_norm ?_
            refine thenE_norm (h33 _ _ ?_); clear h33; try clear K33
            refine CW.region ?_
            refine r_move rfl ?_
            refine r_add rfl rfl rfl (wr_i64 (by omega) (by omega)) ?_
            refine r_assign rfl ?_
            refine LW.nil ?_
            refine thenE_norm ⟨rfl, ?_⟩
            exact ⟨raws'.length - (k + 1), by omega, k + 1, by rw [hsn, if_pos hyes]; rfl, by omega, rfl, SH.sel H [0, 1, 2, 3, 4] (by decide) rfl⟩
        · have hg29_1P := hg29_1
          try simp only [decide_eq_true_eq, decide_eq_false_iff_not, Bool.and_eq_true, Bool.or_eq_true, Bool.and_eq_false_iff, Bool.or_eq_false_iff, Bool.not_eq_true', Bool.not_eq_false', beq_iff_eq, bne_iff_ne, ne_eq, Decidable.not_not] at hg29_1P
          refine DL.skip (i := 2) [] rfl (by kernel_rfl) (by kernel_rfl) (by kernel_rfl) (by kernel_rfl) rfl (skipE rfl rfl hg29_1) (SH.sub H (by repeat first | exact List.Sublist.refl _ | exact List.nil_sublist _ | apply List.Sublist.cons_cons | apply List.Sublist.cons)) ?_
          refine DL.skip (i := 3) [] rfl (by kernel_rfl) (by kernel_rfl) (by kernel_rfl) (by kernel_rfl) rfl (skipE rfl rfl hg29_1) (SH.sub H (by repeat first | exact List.Sublist.refl _ | exact List.nil_sublist _ | apply List.Sublist.cons_cons | apply List.Sublist.cons)) ?_
          refine DL.skip (i := 4) [] rfl (by kernel_rfl) (by kernel_rfl) (by kernel_rfl) (by kernel_rfl) rfl (skipE rfl rfl hg29_1) (SH.sub H (by repeat first | exact List.Sublist.refl _ | exact List.nil_sublist _ | apply List.Sublist.cons_cons | apply List.Sublist.cons)) ?_
          refine DL.skip (i := 5) [] rfl (by kernel_rfl) (by kernel_rfl) (by kernel_rfl) (by kernel_rfl) rfl (skipE rfl rfl hg29_1) (SH.sub H (by repeat first | exact List.Sublist.refl _ | exact List.nil_sublist _ | apply List.Sublist.cons_cons | apply List.Sublist.cons)) ?_
          refine DL.skip (i := 6) [] rfl (by kernel_rfl) (by kernel_rfl) (by kernel_rfl) (by kernel_rfl) rfl (skipE rfl rfl hg29_1) (SH.sub H (by repeat first | exact List.Sublist.refl _ | exact List.nil_sublist _ | apply List.Sublist.cons_cons | apply List.Sublist.cons)) ?_
          refine DL.skip (i := 7) [] rfl (by kernel_rfl) (by kernel_rfl) (by kernel_rfl) (by kernel_rfl) rfl (skipE rfl rfl hg29_1) (SH.sub H (by repeat first | exact List.Sublist.refl _ | exact List.nil_sublist _ | apply List.Sublist.cons_cons | apply List.Sublist.cons)) ?_
          refine DL.skip (i := 8) [] rfl (by kernel_rfl) (by kernel_rfl) (by kernel_rfl) (by kernel_rfl) rfl (skipE rfl rfl hg29_1) (SH.sub H (by repeat first | exact List.Sublist.refl _ | exact List.nil_sublist _ | apply List.Sublist.cons_cons | apply List.Sublist.cons)) ?_
          refine DL.skip (i := 9) [] rfl (by kernel_rfl) (by kernel_rfl) (by kernel_rfl) (by kernel_rfl) rfl (skipE rfl rfl hg29_1) (SH.sub H (by repeat first | exact List.Sublist.refl _ | exact List.nil_sublist _ | apply List.Sublist.cons_cons | apply List.Sublist.cons)) ?_
          refine DL.take (i := 10) [] rfl (by kernel_rfl) (by kernel_rfl) (by kernel_rfl) (by kernel_rfl) rfl rfl (fun u H => x_pickF rfl hg29_1) (SH.sub H (by repeat first | exact List.Sublist.refl _ | exact List.nil_sublist _ | apply List.Sublist.cons_cons | apply List.Sublist.cons)) ?_
          refine DL.done (by kernel_rfl) ?_
          refine thenE_norm ?_
          refine cut (K := K36) [0, 3, 4, 5, 9, 10, 17, 18, 19, 118] (fun σ => ?_)
          simp only [setL, keepE, upd_get, ev, Nat.reduceEqDiff, ↓reduceIte]
          refine h36 _ _ ?_; clear h36; try clear K36
          refine CW.condF rfl (by first | rfl | (simp only [decide_eq_true_eq, decide_eq_false_iff_not, Bool.and_eq_true, Bool.or_eq_true, Bool.and_eq_false_iff, Bool.or_eq_false_iff, Bool.not_eq_true', Bool.not_eq_false', beq_iff_eq, bne_iff_ne]; omega) | simp_all) ?_
          refine CW.skip ?_
          refine thenE_norm (h35 _ _ ?_); clear h35; try clear K35
          refine CW.seq (fun K41 h41 => ?_)
          refine CW.seq (fun K42 h42 => ?_)
          have hyes : tok < r.token := Classical.not_not.1 fun q => Bool.false_ne_true (hg29_1P.symm.trans (hU1.2 q).1)
          refine CW.region ?_
          refine r_move rfl ?_
          refine r_move rfl ?_
          refine r_indexAddrV rfl Try.underlying48 (by simp only [upd_get, ev, Nat.reduceEqDiff, ↓reduceIte] <;> rfl) rfl (by first | assumption | exact SH.rsR H (by (repeat first | exact At.here | apply At.there); done) | exact SH.rsO H (by (repeat first | exact At.here | apply At.there); done) | exact (Rs.nil : Rs Non _ _ _)) (by exact Try.sizeOf53) (by omega) (by omega) ?_
          refine r_fieldAddrO rfl Try.underlying53 rfl Try.sizeOf3 (by decide) (show _ + 2 = _ from rfl) rfl ?_
          refine r_load rfl Try.isAgg3 rfl (by first | exact Rs.cell (o := 2) (by first | assumption | exact SH.rsR H (by (repeat first | exact At.here | apply At.there); done) | exact SH.rsO H (by (repeat first | exact At.here | apply At.there); done) | exact (Rs.nil : Rs Non _ _ _)) (by assumption) (by rfl) | exact Rs.cell0 (by first | assumption | exact SH.rsR H (by (repeat first | exact At.here | apply At.there); done) | exact SH.rsO H (by (repeat first | exact At.here | apply At.there); done) | exact (Rs.nil : Rs Non _ _ _)) (by assumption) (by rfl) | assumption) ?_
          refine r_move rfl ?_
          refine r_leq rfl rfl rfl ?_
          refine r_move rfl ?_
          refine' LW.grpOr (n := 10) (ts := [0, 3, 4, 5, 9, 10, 17, 18]) (d := 144) (tj := 134) rfl (fun hg32_8 => ?_) (fun hg32_8 => ?_) (fun σ => ?_)
          rotate_left
          · simp only [List.take_succ_cons, List.take_zero]
            have hg32_8P := hg32_8
            try simp only [decide_eq_true_eq, decide_eq_false_iff_not, Bool.and_eq_true, Bool.or_eq_true, Bool.and_eq_false_iff, Bool.or_eq_false_iff, Bool.not_eq_true', Bool.not_eq_false', beq_iff_eq, bne_iff_ne] at hg32_8P
            refine LW.want rfl rfl hg32_8 ?_
            refine r_move rfl ?_
            refine LW.want rfl rfl hg32_8 ?_
            refine r_move rfl ?_
            refine LW.want rfl rfl hg32_8 ?_
            refine r_indexAddrV rfl Try.underlying48 (by simp only [upd_get, ev, Nat.reduceEqDiff, ↓reduceIte] <;> rfl) rfl (by first | assumption | exact SH.rsR H (by (repeat first | exact At.here | apply At.there); done) | exact SH.rsO H (by (repeat first | exact At.here | apply At.there); done) | exact (Rs.nil : Rs Non _ _ _)) (by exact Try.sizeOf53) (by omega) (by omega) ?_
            refine LW.want rfl rfl hg32_8 ?_
            refine r_fieldAddrO rfl Try.underlying53 rfl Try.sizeOf3 (by decide) (show _ + 2 = _ from rfl) rfl ?_
            refine LW.want rfl rfl hg32_8 ?_
            refine r_load rfl Try.isAgg3 rfl (by first | exact Rs.cell (o := 2) (by first | assumption | exact SH.rsR H (by (repeat first | exact At.here | apply At.there); done) | exact SH.rsO H (by (repeat first | exact At.here | apply At.there); done) | exact (Rs.nil : Rs Non _ _ _)) (by assumption) (by rfl) | exact Rs.cell0 (by first | assumption | exact SH.rsR H (by (repeat first | exact At.here | apply At.there); done) | exact SH.rsO H (by (repeat first | exact At.here | apply At.there); done) | exact (Rs.nil : Rs Non _ _ _)) (by assumption) (by rfl) | assumption) ?_
            refine LW.want rfl rfl hg32_8 ?_
            refine r_move rfl ?_
            refine LW.want rfl rfl hg32_8 ?_
            refine r_move rfl ?_
            refine LW.want rfl rfl hg32_8 ?_
            refine r_add rfl rfl rfl (wr_i64 (by omega) (by omega)) ?_
            refine LW.want rfl rfl hg32_8 ?_
            refine r_gtr rfl rfl rfl ?_
            refine r_pickF rfl rfl hg32_8 ?_
            refine LW.nil (thenE_norm ⟨rfl, rfl, rfl⟩)
          · simp only [List.take_succ_cons, List.take_zero]
            refine LW.skip rfl (fun _ e => by cases e; decide) rfl hg32_8 ?_
            refine LW.skip rfl (fun _ e => by cases e; decide) rfl hg32_8 ?_
            refine LW.skip rfl (fun _ e => by cases e; decide) rfl hg32_8 ?_
            refine LW.skip rfl (fun _ e => by cases e; decide) rfl hg32_8 ?_
            refine LW.skip rfl (fun _ e => by cases e; decide) rfl hg32_8 ?_
            refine LW.skip rfl (fun _ e => by cases e; decide) rfl hg32_8 ?_
            refine LW.skip rfl (fun _ e => by cases e; decide) rfl hg32_8 ?_
            refine LW.skip rfl (fun _ e => by cases e; decide) rfl hg32_8 ?_
            refine LW.skip rfl (fun _ e => by cases e; decide) rfl hg32_8 ?_
            refine r_pickT rfl rfl hg32_8 ?_
            refine LW.nil (thenE_norm ⟨rfl, rfl, rfl⟩)
          simp only [setL, keepE, upd_get, ev, Nat.reduceEqDiff, ↓reduceIte]; simp only [List.drop_succ_cons, List.drop_zero]
          refine LW.nil ?_
          refine thenE_norm (h42 _ _ ?_); clear h42; try clear K42
          refine CW.condF rfl (by simp; omega) ?_
          refine CW.skip ?_
          refine thenE_norm (h41 _ _ ?_); clear h41; try clear K41
          refine CW.region ?_
          refine r_move rfl ?_
          refine r_add rfl rfl rfl (wr_i64 (by omega) (by omega)) ?_
          refine r_assign rfl ?_
          refine LW.nil ?_
          refine blockE_norm ?_
          refine thenE_norm (h33 _ _ ?_); clear h33; try clear K33
          refine CW.region ?_
          refine r_move rfl ?_
          refine r_add rfl rfl rfl (wr_i64 (by omega) (by omega)) ?_
          refine r_assign rfl ?_
          refine LW.nil ?_
          refine thenE_norm ⟨rfl, ?_⟩
          exact ⟨raws'.length - (k + 1), by omega, k + 1, by rw [hsn, if_pos hyes]; rfl, by omega, rfl, SH.sel H [0, 1, 2, 3, 4] (by decide) rfl⟩
      · try simp only [decide_eq_true_eq, decide_eq_false_iff_not, Bool.and_eq_true, Bool.or_eq_true, Bool.and_eq_false_iff, Bool.or_eq_false_iff, Bool.not_eq_true', Bool.not_eq_false', beq_iff_eq, bne_iff_ne, ne_eq, Decidable.not_not] at hc9
        refine CW.exit (thenE_exit (thenE_exit (blockE_hit ?_)))
        refine thenE_norm (h29 _ _ ?_); clear h29; try clear K29
        refine CW.seq (fun K43 h43 => ?_)
        refine CW.seq (fun K44 h44 => ?_)
        obtain rfl : k = raws'.length := by omega
        rw [hrl', List.take_length, hnum]
        refine CW.region ?_
        refine r_move rfl ?_
        refine r_move rfl ?_
        refine r_neq rfl rfl rfl ?_
        refine r_move rfl ?_
        refine LW.known (t := 150) (c := false) rfl (by simp) (fun hg35_4 => ?_)
        refine LW.want rfl rfl hg35_4 ?_
        refine r_move rfl ?_
        refine LW.want rfl rfl hg35_4 ?_
        refine r_call rfl Try.call36 (by simp only [List.map_cons, List.map_nil, List.map_toArray, List.toList_toArray, upd_get, ev, Nat.reduceEqDiff, ↓reduceIte] <;> rfl) (RightK_c _ (SH.rsR H (i := 3) rfl) (SH.propI H (i := 4) rfl) hst.ok.small) ?_
        rintro _ w35_5 ⟨rfl, X⟩
        refine ⟨_, rfl, ?_⟩
        replace H := SH.same H X
        clear X
        refine LW.want rfl rfl hg35_4 ?_
        refine r_not rfl rfl ?_
        refine r_pickF rfl rfl hg35_4 ?_
        refine LW.nil ?_
        refine thenE_norm ?_
        refine cut (K := K44) [0, 4, 5, 9, 10, 154] (fun σ => ?_)
        simp only [setL, keepE, upd_get, ev, Nat.reduceEqDiff, ↓reduceIte]
        refine h44 _ _ ?_; clear h44; try clear K44
        refine CW.condF rfl (by rw [hst.ok.right]; rfl) ?_
        refine CW.skip ?_
        refine thenE_norm (h43 _ _ ?_); clear h43; try clear K43
        refine CW.seq (fun K45 h45 => ?_)
        refine CW.region ?_
        refine r_move rfl ?_
        refine r_assign rfl ?_
        refine LW.nil ?_
        refine thenE_norm (h45 _ _ ?_); clear h45; try clear K45
        refine CW.region ?_
        refine r_move rfl ?_
        refine r_move rfl ?_
        refine r_add rfl rfl rfl (wr_i64 (by omega) (by omega)) ?_
        refine r_assign rfl ?_
        refine LW.nil ?_
        refine blockE_norm ?_
        refine thenE_norm (h11 _ _ ?_); clear h11; try clear K11
        refine CW.region ?_
        refine r_move rfl ?_
        refine r_add rfl rfl rfl (wr_i64 (by omega) (by omega)) ?_
        refine r_assign rfl ?_
        refine LW.nil ?_
        refine thenE_norm ⟨rfl, ?_⟩
        exact ⟨acts.length - (i + 1), by omega, i + 1, u', raws', ns, tok + given, _, _, rfl, by omega, rfl, by omega, by omega, hst.ok, SH.sel H [0, 3, 4] (by decide) rfl⟩
    · try simp only [decide_eq_true_eq, decide_eq_false_iff_not, Bool.and_eq_true, Bool.or_eq_true, Bool.and_eq_false_iff, Bool.or_eq_false_iff, Bool.not_eq_true', Bool.not_eq_false', beq_iff_eq, bne_iff_ne, ne_eq, Decidable.not_not] at hc2
      refine CW.exit (thenE_exit (thenE_exit (blockE_hit ?_)))
      refine thenE_norm (h7 _ _ ?_); clear h7; try clear K7
      refine CW.seq (fun K46 h46 => ?_)
      refine CW.region ?_
      refine r_call rfl Try.call31 (by simp only [List.map_cons, List.map_nil, List.map_toArray, List.toList_toArray, upd_get, ev, Nat.reduceEqDiff, ↓reduceIte] <;> rfl) (awake8_c _) ?_
      rintro _ w39_0 ⟨rfl, X⟩
      refine ⟨_, rfl, ?_⟩
      replace H := SH.same H X
      clear X
      refine r_assign rfl ?_
      refine LW.nil ?_
      refine thenE_norm (h46 _ _ ?_); clear h46; try clear K46
      refine CW.ret (ret1 Try.results11 (by simp only [upd_get, ev, Nat.reduceEqDiff, ↓reduceIte]; rfl) ?_)
      exact ⟨rfl, H.ext⟩
end Go.Proofs.Ytaggdlbjgjagbaa
