/-
  The walks of layer 26's functions, the second part: what is put, looked at, taken.
-/
import Derived.Test.YtcmnhneigojpoaaVNtA
namespace Go.Proofs.Ytcmnhneigojpoaa
set_option linter.unusedSimpArgs false
set_option linter.unusedVariables false
open Go.V Go.RowKit

theorem Len_c {p : Nat} {ms : List Fl} {lost : Int} {FN : Nat → Prop} (w : World) (hN : NetA p ms lost FN w) :
    Calls Try.prog 17 #[.pointer (some ⟨p, 0, none⟩)] w fun e w' => e = .returned (.int .i64 ms.length) ∧ w = w' := by
  obtain ⟨hsm, v, raws, g, F, hA⟩ := hN
  have H := SH.obj (G := Any) hA
  have hl : raws.length = ms.length := All2.len (SH.prop H (i := 2) rfl)
  refine calls_of_CW Try.func17 rfl Try.ntmps17 (Nat.le_of_ble_eq_true rfl) ?_
  simp only [argE, argFrom, Nat.reduceAdd]
  refine CW.seq (fun K1 h1 => ?_)
  refine CW.region ?_
  refine r_assign rfl ?_
  refine LW.nil ?_
  refine thenE_norm (h1 _ _ ?_); clear h1; try clear K1
  refine CW.seq (fun K2 h2 => ?_)
  refine CW.seq (fun K3 h3 => ?_)
  refine CW.region ?_
  refine r_move rfl ?_
  refine r_eqlP rfl Try.underlying23 rfl rfl ?_
  refine LW.nil ?_
  refine thenE_norm (h3 _ _ ?_); clear h3; try clear K3
  refine CW.condF rfl (by first | rfl | (simp only [decide_eq_true_eq, decide_eq_false_iff_not, Bool.and_eq_true, Bool.or_eq_true, Bool.and_eq_false_iff, Bool.or_eq_false_iff, Bool.not_eq_true', Bool.not_eq_false', beq_iff_eq, bne_iff_ne]; omega) | simp_all) ?_
  refine CW.skip ?_
  refine thenE_norm (h2 _ _ ?_); clear h2; try clear K2
  refine CW.seq (fun K4 h4 => ?_)
  refine CW.region ?_
  refine r_move rfl ?_
  refine r_nilCheck rfl rfl ?_
  refine r_fieldAddrO rfl Try.underlying71 rfl Try.sizeOf40 (by decide) (show _ = 0 from rfl) rfl ?_
  refine r_load rfl Try.isAgg40 rfl (by first | exact SH.cellB H (by repeat first | exact At.here | apply At.there) (by rfl) | exact SH.cellI H (by repeat first | exact At.here | apply At.there) (by rfl) | exact Rs.cell (by first | assumption | exact SH.rsR H (by repeat first | exact At.here | apply At.there) | exact SH.rsO H (by repeat first | exact At.here | apply At.there) | exact Rs.toH (by first | assumption | exact SH.rsR H (by repeat first | exact At.here | apply At.there) | exact SH.rsO H (by repeat first | exact At.here | apply At.there)) (by omega) | exact Rs.toL (by first | assumption | exact SH.rsR H (by repeat first | exact At.here | apply At.there) | exact SH.rsO H (by repeat first | exact At.here | apply At.there)) (by omega) | exact Rs.toLH (by first | assumption | exact SH.rsR H (by repeat first | exact At.here | apply At.there) | exact SH.rsO H (by repeat first | exact At.here | apply At.there)) (by omega) (by omega) | exact (Rs.nil : Rs Non _ _ _)) (by assumption) (by rfl) | exact Rs.cell0 (by first | assumption | exact SH.rsR H (by repeat first | exact At.here | apply At.there) | exact SH.rsO H (by repeat first | exact At.here | apply At.there) | exact Rs.toH (by first | assumption | exact SH.rsR H (by repeat first | exact At.here | apply At.there) | exact SH.rsO H (by repeat first | exact At.here | apply At.there)) (by omega) | exact Rs.toL (by first | assumption | exact SH.rsR H (by repeat first | exact At.here | apply At.there) | exact SH.rsO H (by repeat first | exact At.here | apply At.there)) (by omega) | exact Rs.toLH (by first | assumption | exact SH.rsR H (by repeat first | exact At.here | apply At.there) | exact SH.rsO H (by repeat first | exact At.here | apply At.there)) (by omega) (by omega) | exact (Rs.nil : Rs Non _ _ _)) (by assumption) (by rfl) | assumption) ?_
  first
    | refine r_lenV rfl Try.underlying40 (by simp only [upd_get, ev, Nat.reduceEqDiff, ↓reduceIte] <;> rfl) (by first | assumption | exact SH.rsR H (by repeat first | exact At.here | apply At.there) | exact SH.rsO H (by repeat first | exact At.here | apply At.there) | exact Rs.toH (by first | assumption | exact SH.rsR H (by repeat first | exact At.here | apply At.there) | exact SH.rsO H (by repeat first | exact At.here | apply At.there)) (by omega) | exact Rs.toL (by first | assumption | exact SH.rsR H (by repeat first | exact At.here | apply At.there) | exact SH.rsO H (by repeat first | exact At.here | apply At.there)) (by omega) | exact Rs.toLH (by first | assumption | exact SH.rsR H (by repeat first | exact At.here | apply At.there) | exact SH.rsO H (by repeat first | exact At.here | apply At.there)) (by omega) (by omega) | exact (Rs.nil : Rs Non _ _ _)) ?_
    | refine r_len rfl Try.underlying40 rfl ?_
  refine r_assign rfl ?_
  refine LW.nil ?_
  refine thenE_norm ?_
  refine cut (K := K4) [2] (fun σ => ?_)
  simp only [setL, keepE, upd_get, ev, Nat.reduceEqDiff, ↓reduceIte]
  refine h4 _ _ ?_; clear h4; try clear K4
  refine CW.ret (ret1 Try.results17 (by simp only [upd_get, ev, Nat.reduceEqDiff, ↓reduceIte]; rfl) ?_)
  rw [hl]
  exact ⟨rfl, rfl⟩
theorem NetA.upx {p : Nat} {ms : List Fl} {lost : Int} {FN : Nat → Prop} {w w' : World} (h : NetA p ms lost FN w) (e : Ext0 w w') : NetA p ms lost FN w' := net_st Non w w' h e (fun _ _ q => q)
theorem LenZ_c (w : World) : Calls Try.prog 17 #[.pointer none] w fun e w' => e = .returned (.int .i64 0) ∧ w = w' := by
  refine calls_of_CW Try.func17 rfl Try.ntmps17 (Nat.le_of_ble_eq_true rfl) ?_
  simp only [argE, argFrom, Nat.reduceAdd]
  refine CW.seq (fun K1 h1 => ?_)
  refine CW.region ?_
  refine r_assign rfl ?_
  refine LW.nil ?_
  refine thenE_norm (h1 _ _ ?_); clear h1; try clear K1
  refine CW.seq (fun K2 h2 => ?_)
  refine CW.seq (fun K3 h3 => ?_)
  refine CW.region ?_
  refine r_move rfl ?_
  refine r_eqlP rfl Try.underlying23 rfl rfl ?_
  refine LW.nil ?_
  refine thenE_norm (h3 _ _ ?_); clear h3; try clear K3
  refine CW.condT rfl (by first | rfl | (simp only [decide_eq_true_eq, decide_eq_false_iff_not, Bool.and_eq_true, Bool.or_eq_true, Bool.and_eq_false_iff, Bool.or_eq_false_iff, Bool.not_eq_true', Bool.not_eq_false', beq_iff_eq, bne_iff_ne]; omega) | simp_all) ?_
  refine CW.seq (fun K4 h4 => ?_)
  refine CW.region ?_
  refine r_assign rfl ?_
  refine LW.nil ?_
  refine thenE_norm (h4 _ _ ?_); clear h4; try clear K4
  refine CW.ret (thenE_ret (ret1 Try.results17 (by simp only [upd_get, ev, Nat.reduceEqDiff, ↓reduceIte]; rfl) ?_))
  exact ⟨rfl, rfl⟩
theorem Lost_c {p : Nat} {ms : List Fl} {lost : Int} {FN : Nat → Prop} (w : World) (hN : NetA p ms lost FN w) :
    Calls Try.prog 23 #[.pointer (some ⟨p, 0, none⟩)] w fun e w' => e = .returned (.int .i64 lost) ∧ w = w' := by
  obtain ⟨hsm, v, raws, g, F, hA⟩ := hN
  have H := SH.obj (G := Any) hA
  refine calls_of_CW Try.func23 rfl Try.ntmps23 (Nat.le_of_ble_eq_true rfl) ?_
  simp only [argE, argFrom, Nat.reduceAdd]
  refine CW.seq (fun K1 h1 => ?_)
  refine CW.region ?_
  refine r_assign rfl ?_
  refine LW.nil ?_
  refine thenE_norm (h1 _ _ ?_); clear h1; try clear K1
  refine CW.seq (fun K2 h2 => ?_)
  refine CW.seq (fun K3 h3 => ?_)
  refine CW.region ?_
  refine r_move rfl ?_
  refine r_eqlP rfl Try.underlying23 rfl rfl ?_
  refine LW.nil ?_
  refine thenE_norm (h3 _ _ ?_); clear h3; try clear K3
  refine CW.condF rfl (by first | rfl | (simp only [decide_eq_true_eq, decide_eq_false_iff_not, Bool.and_eq_true, Bool.or_eq_true, Bool.and_eq_false_iff, Bool.or_eq_false_iff, Bool.not_eq_true', Bool.not_eq_false', beq_iff_eq, bne_iff_ne]; omega) | simp_all) ?_
  refine CW.skip ?_
  refine thenE_norm (h2 _ _ ?_); clear h2; try clear K2
  refine CW.seq (fun K4 h4 => ?_)
  refine CW.region ?_
  refine r_move rfl ?_
  refine r_nilCheck rfl rfl ?_
  refine r_fieldAddrO rfl Try.underlying71 rfl Try.sizeOf3 (by decide) (show _ = 1 from rfl) rfl ?_
  refine r_load rfl Try.isAgg3 rfl (by first | exact SH.cellB H (by repeat first | exact At.here | apply At.there) (by rfl) | exact SH.cellI H (by repeat first | exact At.here | apply At.there) (by rfl) | exact Rs.cell (by first | assumption | exact SH.rsR H (by repeat first | exact At.here | apply At.there) | exact SH.rsO H (by repeat first | exact At.here | apply At.there) | exact Rs.toH (by first | assumption | exact SH.rsR H (by repeat first | exact At.here | apply At.there) | exact SH.rsO H (by repeat first | exact At.here | apply At.there)) (by omega) | exact Rs.toL (by first | assumption | exact SH.rsR H (by repeat first | exact At.here | apply At.there) | exact SH.rsO H (by repeat first | exact At.here | apply At.there)) (by omega) | exact Rs.toLH (by first | assumption | exact SH.rsR H (by repeat first | exact At.here | apply At.there) | exact SH.rsO H (by repeat first | exact At.here | apply At.there)) (by omega) (by omega) | exact (Rs.nil : Rs Non _ _ _)) (by assumption) (by rfl) | exact Rs.cell0 (by first | assumption | exact SH.rsR H (by repeat first | exact At.here | apply At.there) | exact SH.rsO H (by repeat first | exact At.here | apply At.there) | exact Rs.toH (by first | assumption | exact SH.rsR H (by repeat first | exact At.here | apply At.there) | exact SH.rsO H (by repeat first | exact At.here | apply At.there)) (by omega) | exact Rs.toL (by first | assumption | exact SH.rsR H (by repeat first | exact At.here | apply At.there) | exact SH.rsO H (by repeat first | exact At.here | apply At.there)) (by omega) | exact Rs.toLH (by first | assumption | exact SH.rsR H (by repeat first | exact At.here | apply At.there) | exact SH.rsO H (by repeat first | exact At.here | apply At.there)) (by omega) (by omega) | exact (Rs.nil : Rs Non _ _ _)) (by assumption) (by rfl) | assumption) ?_
  refine r_assign rfl ?_
  refine LW.nil ?_
  refine thenE_norm ?_
  refine cut (K := K4) [2] (fun σ => ?_)
  simp only [setL, keepE, upd_get, ev, Nat.reduceEqDiff, ↓reduceIte]
  refine h4 _ _ ?_; clear h4; try clear K4
  refine CW.ret (ret1 Try.results23 (by simp only [upd_get, ev, Nat.reduceEqDiff, ↓reduceIte]; rfl) ?_)
  exact ⟨rfl, rfl⟩
theorem LostZ_c (w : World) : Calls Try.prog 23 #[.pointer none] w fun e w' => e = .returned (.int .i64 0) ∧ w = w' := by
  refine calls_of_CW Try.func23 rfl Try.ntmps23 (Nat.le_of_ble_eq_true rfl) ?_
  simp only [argE, argFrom, Nat.reduceAdd]
  refine CW.seq (fun K1 h1 => ?_)
  refine CW.region ?_
  refine r_assign rfl ?_
  refine LW.nil ?_
  refine thenE_norm (h1 _ _ ?_); clear h1; try clear K1
  refine CW.seq (fun K2 h2 => ?_)
  refine CW.seq (fun K3 h3 => ?_)
  refine CW.region ?_
  refine r_move rfl ?_
  refine r_eqlP rfl Try.underlying23 rfl rfl ?_
  refine LW.nil ?_
  refine thenE_norm (h3 _ _ ?_); clear h3; try clear K3
  refine CW.condT rfl (by first | rfl | (simp only [decide_eq_true_eq, decide_eq_false_iff_not, Bool.and_eq_true, Bool.or_eq_true, Bool.and_eq_false_iff, Bool.or_eq_false_iff, Bool.not_eq_true', Bool.not_eq_false', beq_iff_eq, bne_iff_ne]; omega) | simp_all) ?_
  refine CW.seq (fun K4 h4 => ?_)
  refine CW.region ?_
  refine r_assign rfl ?_
  refine LW.nil ?_
  refine thenE_norm (h4 _ _ ?_); clear h4; try clear K4
  refine CW.ret (thenE_ret (ret1 Try.results23 (by simp only [upd_get, ev, Nat.reduceEqDiff, ↓reduceIte]; rfl) ?_))
  exact ⟨rfl, rfl⟩

theorem kept_c {F : Nat → Prop} (a : Flight) {xs : List UInt8} (w : World) (hb : Rs F w a.bytes xs) (hn : xs.length ≤ 1000000) :
    Calls Try.prog 41 #[agg a] w fun e w' => ∃ v' g, e = .returned (agg (⟨a.src, a.dst, a.born, v'⟩ : Flight)) ∧ SH Non Non w w' [.O 5 v' xs g] := by
  have H := (SH.start w).arg hb
  refine calls_of_CW Try.func41 rfl Try.ntmps41 (Nat.le_of_ble_eq_true rfl) ?_
  simp only [argE, argFrom, Nat.reduceAdd]
  refine CW.seq (fun K1 h1 => ?_)
  refine CW.region ?_
  refine s_box H rfl (by simp only [upd_get, ev, Nat.reduceEqDiff, ↓reduceIte] <;> rfl) rfl ?_
  clear H
  intro b0_0 w0_0 H
  try dsimp only [replC, List.cons_append, List.nil_append, List.append_nil, agg, cellsL, Value.cells, List.toList_toArray, List.set_cons_zero, List.set_cons_succ, spliceL, List.take_succ_cons, List.take_zero, List.drop_succ_cons, List.drop_zero, List.length_cons, List.length_nil, Nat.reduceAdd, Row.cells, Flight.L] at H
  refine s_alloc (cs := [.int .i64 0, .int .i64 0, .int .i64 0, .slice none 0 0]) H rfl Try.zeroValue29 rfl ?_
  clear H
  intro b0_1 w0_1 H
  try dsimp only [replC, List.cons_append, List.nil_append, List.append_nil, agg, cellsL, Value.cells, List.toList_toArray, List.set_cons_zero, List.set_cons_succ, spliceL, List.take_succ_cons, List.take_zero, List.drop_succ_cons, List.drop_zero, List.length_cons, List.length_nil, Nat.reduceAdd, Row.cells, Flight.L] at H
  refine LW.nil ?_
  refine thenE_norm (h1 _ _ ?_); clear h1; try clear K1
  refine CW.seq (fun K2 h2 => ?_)
  refine CW.region ?_
  refine r_fieldAddrO rfl Try.underlying29 rfl Try.sizeOf22 (by decide) (show _ = 3 from rfl) rfl ?_
  refine r_load rfl Try.isAgg22 rfl (by first | exact SH.cellB H (by repeat first | exact At.here | apply At.there) (by rfl) | exact SH.cellI H (by repeat first | exact At.here | apply At.there) (by rfl) | exact Rs.cell (by first | assumption | exact SH.rsR H (by repeat first | exact At.here | apply At.there) | exact SH.rsO H (by repeat first | exact At.here | apply At.there) | exact Rs.toH (by first | assumption | exact SH.rsR H (by repeat first | exact At.here | apply At.there) | exact SH.rsO H (by repeat first | exact At.here | apply At.there)) (by omega) | exact Rs.toL (by first | assumption | exact SH.rsR H (by repeat first | exact At.here | apply At.there) | exact SH.rsO H (by repeat first | exact At.here | apply At.there)) (by omega) | exact Rs.toLH (by first | assumption | exact SH.rsR H (by repeat first | exact At.here | apply At.there) | exact SH.rsO H (by repeat first | exact At.here | apply At.there)) (by omega) (by omega) | exact (Rs.nil : Rs Non _ _ _)) (by assumption) (by rfl) | exact Rs.cell0 (by first | assumption | exact SH.rsR H (by repeat first | exact At.here | apply At.there) | exact SH.rsO H (by repeat first | exact At.here | apply At.there) | exact Rs.toH (by first | assumption | exact SH.rsR H (by repeat first | exact At.here | apply At.there) | exact SH.rsO H (by repeat first | exact At.here | apply At.there)) (by omega) | exact Rs.toL (by first | assumption | exact SH.rsR H (by repeat first | exact At.here | apply At.there) | exact SH.rsO H (by repeat first | exact At.here | apply At.there)) (by omega) | exact Rs.toLH (by first | assumption | exact SH.rsR H (by repeat first | exact At.here | apply At.there) | exact SH.rsO H (by repeat first | exact At.here | apply At.there)) (by omega) (by omega) | exact (Rs.nil : Rs Non _ _ _)) (by assumption) (by rfl) | assumption) ?_
  refine r_call rfl Try.call51 (by simp only [List.map_cons, List.map_nil, List.map_toArray, List.toList_toArray, upd_get, ev, Nat.reduceEqDiff, ↓reduceIte] <;> rfl) (CloneB_c _ (by first | assumption | exact SH.rsR H (by repeat first | exact At.here | apply At.there) | exact SH.rsO H (by repeat first | exact At.here | apply At.there) | exact Rs.toH (by first | assumption | exact SH.rsR H (by repeat first | exact At.here | apply At.there) | exact SH.rsO H (by repeat first | exact At.here | apply At.there)) (by omega) | exact Rs.toL (by first | assumption | exact SH.rsR H (by repeat first | exact At.here | apply At.there) | exact SH.rsO H (by repeat first | exact At.here | apply At.there)) (by omega) | exact Rs.toLH (by first | assumption | exact SH.rsR H (by repeat first | exact At.here | apply At.there) | exact SH.rsO H (by repeat first | exact At.here | apply At.there)) (by omega) (by omega) | exact (Rs.nil : Rs Non _ _ _)) (by first | omega | (simp only [List.length_append, List.length_cons, List.length_nil]; omega) | (simp; omega))) ?_
  rintro _ w1_2 ⟨v1_2, g1_2, rfl, K⟩
  refine ⟨_, rfl, ?_⟩
  replace H := SH.call H K
  clear K
  try dsimp only [replC, List.cons_append, List.nil_append, List.append_nil, agg, cellsL, Value.cells, List.toList_toArray, List.set_cons_zero, List.set_cons_succ, spliceL, List.take_succ_cons, List.take_zero, List.drop_succ_cons, List.drop_zero, List.length_cons, List.length_nil, Nat.reduceAdd, Row.cells, Flight.L] at H
  refine r_fieldAddrO rfl Try.underlying29 rfl Try.sizeOf22 (by decide) (show _ = 3 from rfl) rfl ?_
  refine s_store H Try.sizeOf22 rfl (by simp only [upd_get, ev, Nat.reduceEqDiff, ↓reduceIte] <;> rfl) (by first | rfl | exact Rs.oneC (by first | assumption | exact SH.rsR H (by repeat first | exact At.here | apply At.there) | exact SH.rsO H (by repeat first | exact At.here | apply At.there) | exact Rs.toH (by first | assumption | exact SH.rsR H (by repeat first | exact At.here | apply At.there) | exact SH.rsO H (by repeat first | exact At.here | apply At.there)) (by omega) | exact Rs.toL (by first | assumption | exact SH.rsR H (by repeat first | exact At.here | apply At.there) | exact SH.rsO H (by repeat first | exact At.here | apply At.there)) (by omega) | exact Rs.toLH (by first | assumption | exact SH.rsR H (by repeat first | exact At.here | apply At.there) | exact SH.rsO H (by repeat first | exact At.here | apply At.there)) (by omega) (by omega) | exact (Rs.nil : Rs Non _ _ _)) | (simp only [List.all_cons, List.all_nil, Bool.and_true, Bool.and_eq_true, Row.cells, Flight.L]; (repeat' constructor) <;> first | rfl | exact Rs.oneC (by first | assumption | exact SH.rsR H (by repeat first | exact At.here | apply At.there) | exact SH.rsO H (by repeat first | exact At.here | apply At.there) | exact Rs.toH (by first | assumption | exact SH.rsR H (by repeat first | exact At.here | apply At.there) | exact SH.rsO H (by repeat first | exact At.here | apply At.there)) (by omega) | exact Rs.toL (by first | assumption | exact SH.rsR H (by repeat first | exact At.here | apply At.there) | exact SH.rsO H (by repeat first | exact At.here | apply At.there)) (by omega) | exact Rs.toLH (by first | assumption | exact SH.rsR H (by repeat first | exact At.here | apply At.there) | exact SH.rsO H (by repeat first | exact At.here | apply At.there)) (by omega) (by omega) | exact (Rs.nil : Rs Non _ _ _)))) (by repeat first | exact At.here | apply At.there) (by first | (simp; done) | decide | omega) ?_
  clear H
  intro w1_4 H
  try dsimp only [replC, List.cons_append, List.nil_append, List.append_nil, agg, cellsL, Value.cells, List.toList_toArray, List.set_cons_zero, List.set_cons_succ, spliceL, List.take_succ_cons, List.take_zero, List.drop_succ_cons, List.drop_zero, List.length_cons, List.length_nil, Nat.reduceAdd, Row.cells, Flight.L] at H
  refine LW.nil ?_
  refine thenE_norm (h2 _ _ ?_); clear h2; try clear K2
  refine CW.seq (fun K3 h3 => ?_)
  refine CW.region ?_
  refine r_loadA rfl Try.isAgg29 Try.sizeOf29 rfl (by first | exact SH.cells H (by repeat first | exact At.here | apply At.there) | exact Rs.cells0 (by first | assumption | exact SH.rsR H (by repeat first | exact At.here | apply At.there) | exact SH.rsO H (by repeat first | exact At.here | apply At.there) | exact Rs.toH (by first | assumption | exact SH.rsR H (by repeat first | exact At.here | apply At.there) | exact SH.rsO H (by repeat first | exact At.here | apply At.there)) (by omega) | exact Rs.toL (by first | assumption | exact SH.rsR H (by repeat first | exact At.here | apply At.there) | exact SH.rsO H (by repeat first | exact At.here | apply At.there)) (by omega) | exact Rs.toLH (by first | assumption | exact SH.rsR H (by repeat first | exact At.here | apply At.there) | exact SH.rsO H (by repeat first | exact At.here | apply At.there)) (by omega) (by omega) | exact (Rs.nil : Rs Non _ _ _)) (by assumption)) (by rfl) ?_
  refine s_storeA H Try.sizeOf29 rfl (by simp only [upd_get, ev, Nat.reduceEqDiff, ↓reduceIte] <;> rfl) (by simp only [cellsL, agg, List.toList_toArray, Row.cells, Flight.L] <;> rfl) (by rfl) (by first | rfl | exact Rs.oneC (by first | assumption | exact SH.rsR H (by repeat first | exact At.here | apply At.there) | exact SH.rsO H (by repeat first | exact At.here | apply At.there) | exact Rs.toH (by first | assumption | exact SH.rsR H (by repeat first | exact At.here | apply At.there) | exact SH.rsO H (by repeat first | exact At.here | apply At.there)) (by omega) | exact Rs.toL (by first | assumption | exact SH.rsR H (by repeat first | exact At.here | apply At.there) | exact SH.rsO H (by repeat first | exact At.here | apply At.there)) (by omega) | exact Rs.toLH (by first | assumption | exact SH.rsR H (by repeat first | exact At.here | apply At.there) | exact SH.rsO H (by repeat first | exact At.here | apply At.there)) (by omega) (by omega) | exact (Rs.nil : Rs Non _ _ _)) | (simp only [List.all_cons, List.all_nil, Bool.and_true, Bool.and_eq_true, Row.cells, Flight.L]; (repeat' constructor) <;> first | rfl | exact Rs.oneC (by first | assumption | exact SH.rsR H (by repeat first | exact At.here | apply At.there) | exact SH.rsO H (by repeat first | exact At.here | apply At.there) | exact Rs.toH (by first | assumption | exact SH.rsR H (by repeat first | exact At.here | apply At.there) | exact SH.rsO H (by repeat first | exact At.here | apply At.there)) (by omega) | exact Rs.toL (by first | assumption | exact SH.rsR H (by repeat first | exact At.here | apply At.there) | exact SH.rsO H (by repeat first | exact At.here | apply At.there)) (by omega) | exact Rs.toLH (by first | assumption | exact SH.rsR H (by repeat first | exact At.here | apply At.there) | exact SH.rsO H (by repeat first | exact At.here | apply At.there)) (by omega) (by omega) | exact (Rs.nil : Rs Non _ _ _)))) (by repeat first | exact At.here | apply At.there) (by first | (simp; done) | decide | (show _ ≤ _; decide)) ?_
  clear H
  intro w2_1 H
  try dsimp only [replC, List.cons_append, List.nil_append, List.append_nil, agg, cellsL, Value.cells, List.toList_toArray, List.set_cons_zero, List.set_cons_succ, spliceL, List.take_succ_cons, List.take_zero, List.drop_succ_cons, List.drop_zero, List.length_cons, List.length_nil, Nat.reduceAdd, Row.cells, Flight.L] at H
  refine LW.nil ?_
  refine thenE_norm ?_
  refine cut (K := K3) [2] (fun σ => ?_)
  simp only [setL, keepE, upd_get, ev, Nat.reduceEqDiff, ↓reduceIte]
  refine h3 _ _ ?_; clear h3; try clear K3
  refine CW.ret (retC1 Try.results41 (by simp only [upd_get, ev, Nat.reduceEqDiff, ↓reduceIte] <;> rfl) Try.isAgg29 Try.sizeOf29 (by exact SH.cells H (by repeat first | exact At.here | apply At.there)) (by rfl) ?_)
  exact ⟨_, _, rfl, (SH.give (SH.sel H [3] (by decide) rfl) (List.Sublist.refl _) (by repeat first | exact trivial | refine ⟨trivial, ?_⟩))⟩

/-- What a net is behind a flight that is put in, how many were lost, and the code. -/
def netPut (ms : List Fl) (lost : Int) (m : Fl) : List Fl × Int × Int :=
  if 2048 < m.bytes.length then (ms, lost, 3) else if 600 ≤ ms.length then (ms, lost + 1, 5) else (ms ++ [m], lost, 0)
set_option maxHeartbeats 1000000 in
theorem Put_c {F : Nat → Prop} {p : Nat} {ms : List Fl} {lost : Int} {FN : Nat → Prop} (a : Flight) {xs : List UInt8} (w : World) (hN : NetA p ms lost FN w) (hb : Rs F w a.bytes xs) (hd : ∀ b, F b → ¬ FN b) (hl0 : 0 ≤ lost) (hl1 : lost < 1000000) :
    Calls Try.prog 13 #[.pointer (some ⟨p, 0, none⟩), agg a] w fun e w' => ∃ FN', e = .returned (.int .i64 (netPut ms lost ⟨a.src, a.dst, a.born, xs⟩).2.2) ∧
      SH FN Non w w' [.P FN' (NetA p (netPut ms lost ⟨a.src, a.dst, a.born, xs⟩).1 (netPut ms lost ⟨a.src, a.dst, a.born, xs⟩).2.1 FN')] := by
  obtain ⟨hsm, v, raws, g, F1, hA⟩ := hN
  have H := SH.argU (SH.obj (G := Any) hA) hb hd
  have hl : raws.length = ms.length := All2.len (SH.prop H (i := 2) rfl)
  refine calls_of_CW Try.func13 rfl Try.ntmps13 (Nat.le_of_ble_eq_true rfl) ?_
  simp only [argE, argFrom, Nat.reduceAdd]
  refine CW.seq (fun K1 h1 => ?_)
  refine CW.region ?_
  refine s_box H rfl (by simp only [upd_get, ev, Nat.reduceEqDiff, ↓reduceIte] <;> rfl) rfl ?_
  clear H
  intro b0_0 w0_0 H
  try dsimp only [replC, List.cons_append, List.nil_append, List.append_nil, agg, cellsL, Value.cells, List.toList_toArray, List.set_cons_zero, List.set_cons_succ, spliceL, List.take_succ_cons, List.take_zero, List.drop_succ_cons, List.drop_zero, List.length_cons, List.length_nil, Nat.reduceAdd, Row.cells, Flight.L] at H
  refine r_assign rfl ?_
  refine LW.nil ?_
  refine thenE_norm (h1 _ _ ?_); clear h1; try clear K1
  refine CW.seq (fun K2 h2 => ?_)
  refine CW.block ?_
  refine CW.seq (fun K3 h3 => ?_)
  refine CW.region ?_
  refine r_move rfl ?_
  refine r_eqlP rfl Try.underlying23 rfl rfl ?_
  refine r_assign rfl ?_
  refine LW.nil ?_
  refine thenE_norm (h3 _ _ ?_); clear h3; try clear K3
  refine CW.condF rfl (by first | rfl | (simp only [decide_eq_true_eq, decide_eq_false_iff_not, Bool.and_eq_true, Bool.or_eq_true, Bool.and_eq_false_iff, Bool.or_eq_false_iff, Bool.not_eq_true', Bool.not_eq_false', beq_iff_eq, bne_iff_ne]; omega) | simp_all) ?_
  refine CW.seq (fun K4 h4 => ?_)
  refine CW.region ?_
  refine r_fieldAddrO rfl Try.underlying29 rfl Try.sizeOf22 (by decide) (show _ = 3 from rfl) rfl ?_
  refine r_load rfl Try.isAgg22 rfl (by first | exact SH.cellB H (by repeat first | exact At.here | apply At.there) (by rfl) | exact SH.cellI H (by repeat first | exact At.here | apply At.there) (by rfl) | exact Rs.cell (by first | assumption | exact SH.rsR H (by repeat first | exact At.here | apply At.there) | exact SH.rsO H (by repeat first | exact At.here | apply At.there) | exact Rs.toH (by first | assumption | exact SH.rsR H (by repeat first | exact At.here | apply At.there) | exact SH.rsO H (by repeat first | exact At.here | apply At.there)) (by omega) | exact Rs.toL (by first | assumption | exact SH.rsR H (by repeat first | exact At.here | apply At.there) | exact SH.rsO H (by repeat first | exact At.here | apply At.there)) (by omega) | exact Rs.toLH (by first | assumption | exact SH.rsR H (by repeat first | exact At.here | apply At.there) | exact SH.rsO H (by repeat first | exact At.here | apply At.there)) (by omega) (by omega) | exact (Rs.nil : Rs Non _ _ _)) (by assumption) (by rfl) | exact Rs.cell0 (by first | assumption | exact SH.rsR H (by repeat first | exact At.here | apply At.there) | exact SH.rsO H (by repeat first | exact At.here | apply At.there) | exact Rs.toH (by first | assumption | exact SH.rsR H (by repeat first | exact At.here | apply At.there) | exact SH.rsO H (by repeat first | exact At.here | apply At.there)) (by omega) | exact Rs.toL (by first | assumption | exact SH.rsR H (by repeat first | exact At.here | apply At.there) | exact SH.rsO H (by repeat first | exact At.here | apply At.there)) (by omega) | exact Rs.toLH (by first | assumption | exact SH.rsR H (by repeat first | exact At.here | apply At.there) | exact SH.rsO H (by repeat first | exact At.here | apply At.there)) (by omega) (by omega) | exact (Rs.nil : Rs Non _ _ _)) (by assumption) (by rfl) | assumption) ?_
  first
    | refine r_lenV rfl Try.underlying22 (by simp only [upd_get, ev, Nat.reduceEqDiff, ↓reduceIte] <;> rfl) (by first | assumption | exact SH.rsR H (by repeat first | exact At.here | apply At.there) | exact SH.rsO H (by repeat first | exact At.here | apply At.there) | exact Rs.toH (by first | assumption | exact SH.rsR H (by repeat first | exact At.here | apply At.there) | exact SH.rsO H (by repeat first | exact At.here | apply At.there)) (by omega) | exact Rs.toL (by first | assumption | exact SH.rsR H (by repeat first | exact At.here | apply At.there) | exact SH.rsO H (by repeat first | exact At.here | apply At.there)) (by omega) | exact Rs.toLH (by first | assumption | exact SH.rsR H (by repeat first | exact At.here | apply At.there) | exact SH.rsO H (by repeat first | exact At.here | apply At.there)) (by omega) (by omega) | exact (Rs.nil : Rs Non _ _ _)) ?_
    | refine r_len rfl Try.underlying22 rfl ?_
  refine r_gtr rfl rfl rfl ?_
  refine r_assign rfl ?_
  refine LW.nil ?_
  refine thenE_norm ?_
  refine cut (K := K4) [0, 3, 8] (fun σ => ?_)
  simp only [setL, keepE, upd_get, ev, Nat.reduceEqDiff, ↓reduceIte]
  refine h4 _ _ ?_; clear h4; try clear K4
  refine CW.cond rfl (fun hc2 => ?_) (fun hc2 => ?_)
  · try simp only [decide_eq_true_eq, decide_eq_false_iff_not, Bool.and_eq_true, Bool.or_eq_true, Bool.and_eq_false_iff, Bool.or_eq_false_iff, Bool.not_eq_true', Bool.not_eq_false', beq_iff_eq, bne_iff_ne, ne_eq, Decidable.not_not] at hc2
    refine CW.seq (fun K5 h5 => ?_)
    refine CW.region ?_
    refine r_assign rfl ?_
    refine LW.nil ?_
    refine thenE_norm (h5 _ _ ?_); clear h5; try clear K5
    refine CW.ret (blockE_ret (thenE_ret (ret1 Try.results13 (by simp only [upd_get, ev, Nat.reduceEqDiff, ↓reduceIte]; rfl) ?_)))
    rw [netPut, if_pos (by show 2048 < xs.length; omega)]
    obtain ⟨FN', K⟩ := NetA.mk hsm (SH.sel H [0, 1, 2] (by decide) (by rfl))
    exact ⟨_, rfl, K⟩
  · try simp only [decide_eq_true_eq, decide_eq_false_iff_not, Bool.and_eq_true, Bool.or_eq_true, Bool.and_eq_false_iff, Bool.or_eq_false_iff, Bool.not_eq_true', Bool.not_eq_false', beq_iff_eq, bne_iff_ne, ne_eq, Decidable.not_not] at hc2
    refine CW.seq (fun K6 h6 => ?_)
    refine CW.region ?_
    refine r_move rfl ?_
    refine r_nilCheck rfl rfl ?_
    refine r_fieldAddrO rfl Try.underlying71 rfl Try.sizeOf40 (by decide) (show _ = 0 from rfl) rfl ?_
    refine r_load rfl Try.isAgg40 rfl (by first | exact SH.cellB H (by repeat first | exact At.here | apply At.there) (by rfl) | exact SH.cellI H (by repeat first | exact At.here | apply At.there) (by rfl) | exact Rs.cell (by first | assumption | exact SH.rsR H (by repeat first | exact At.here | apply At.there) | exact SH.rsO H (by repeat first | exact At.here | apply At.there) | exact Rs.toH (by first | assumption | exact SH.rsR H (by repeat first | exact At.here | apply At.there) | exact SH.rsO H (by repeat first | exact At.here | apply At.there)) (by omega) | exact Rs.toL (by first | assumption | exact SH.rsR H (by repeat first | exact At.here | apply At.there) | exact SH.rsO H (by repeat first | exact At.here | apply At.there)) (by omega) | exact Rs.toLH (by first | assumption | exact SH.rsR H (by repeat first | exact At.here | apply At.there) | exact SH.rsO H (by repeat first | exact At.here | apply At.there)) (by omega) (by omega) | exact (Rs.nil : Rs Non _ _ _)) (by assumption) (by rfl) | exact Rs.cell0 (by first | assumption | exact SH.rsR H (by repeat first | exact At.here | apply At.there) | exact SH.rsO H (by repeat first | exact At.here | apply At.there) | exact Rs.toH (by first | assumption | exact SH.rsR H (by repeat first | exact At.here | apply At.there) | exact SH.rsO H (by repeat first | exact At.here | apply At.there)) (by omega) | exact Rs.toL (by first | assumption | exact SH.rsR H (by repeat first | exact At.here | apply At.there) | exact SH.rsO H (by repeat first | exact At.here | apply At.there)) (by omega) | exact Rs.toLH (by first | assumption | exact SH.rsR H (by repeat first | exact At.here | apply At.there) | exact SH.rsO H (by repeat first | exact At.here | apply At.there)) (by omega) (by omega) | exact (Rs.nil : Rs Non _ _ _)) (by assumption) (by rfl) | assumption) ?_
    first
      | refine r_lenV rfl Try.underlying40 (by simp only [upd_get, ev, Nat.reduceEqDiff, ↓reduceIte] <;> rfl) (by first | assumption | exact SH.rsR H (by repeat first | exact At.here | apply At.there) | exact SH.rsO H (by repeat first | exact At.here | apply At.there) | exact Rs.toH (by first | assumption | exact SH.rsR H (by repeat first | exact At.here | apply At.there) | exact SH.rsO H (by repeat first | exact At.here | apply At.there)) (by omega) | exact Rs.toL (by first | assumption | exact SH.rsR H (by repeat first | exact At.here | apply At.there) | exact SH.rsO H (by repeat first | exact At.here | apply At.there)) (by omega) | exact Rs.toLH (by first | assumption | exact SH.rsR H (by repeat first | exact At.here | apply At.there) | exact SH.rsO H (by repeat first | exact At.here | apply At.there)) (by omega) (by omega) | exact (Rs.nil : Rs Non _ _ _)) ?_
      | refine r_len rfl Try.underlying40 rfl ?_
    refine r_geq rfl rfl rfl ?_
    refine r_assign rfl ?_
    refine LW.nil ?_
    refine thenE_norm (h6 _ _ ?_); clear h6; try clear K6
    refine CW.cond rfl (fun hc3 => ?_) (fun hc3 => ?_)
    · try simp only [decide_eq_true_eq, decide_eq_false_iff_not, Bool.and_eq_true, Bool.or_eq_true, Bool.and_eq_false_iff, Bool.or_eq_false_iff, Bool.not_eq_true', Bool.not_eq_false', beq_iff_eq, bne_iff_ne, ne_eq, Decidable.not_not] at hc3
      refine CW.seq (fun K7 h7 => ?_)
      refine CW.region ?_
      refine r_move rfl ?_
      refine r_nilCheck rfl rfl ?_
      refine r_fieldAddrO rfl Try.underlying71 rfl Try.sizeOf3 (by decide) (show _ = 1 from rfl) rfl ?_
      refine r_load rfl Try.isAgg3 rfl (by first | exact SH.cellB H (by repeat first | exact At.here | apply At.there) (by rfl) | exact SH.cellI H (by repeat first | exact At.here | apply At.there) (by rfl) | exact Rs.cell (by first | assumption | exact SH.rsR H (by repeat first | exact At.here | apply At.there) | exact SH.rsO H (by repeat first | exact At.here | apply At.there) | exact Rs.toH (by first | assumption | exact SH.rsR H (by repeat first | exact At.here | apply At.there) | exact SH.rsO H (by repeat first | exact At.here | apply At.there)) (by omega) | exact Rs.toL (by first | assumption | exact SH.rsR H (by repeat first | exact At.here | apply At.there) | exact SH.rsO H (by repeat first | exact At.here | apply At.there)) (by omega) | exact Rs.toLH (by first | assumption | exact SH.rsR H (by repeat first | exact At.here | apply At.there) | exact SH.rsO H (by repeat first | exact At.here | apply At.there)) (by omega) (by omega) | exact (Rs.nil : Rs Non _ _ _)) (by assumption) (by rfl) | exact Rs.cell0 (by first | assumption | exact SH.rsR H (by repeat first | exact At.here | apply At.there) | exact SH.rsO H (by repeat first | exact At.here | apply At.there) | exact Rs.toH (by first | assumption | exact SH.rsR H (by repeat first | exact At.here | apply At.there) | exact SH.rsO H (by repeat first | exact At.here | apply At.there)) (by omega) | exact Rs.toL (by first | assumption | exact SH.rsR H (by repeat first | exact At.here | apply At.there) | exact SH.rsO H (by repeat first | exact At.here | apply At.there)) (by omega) | exact Rs.toLH (by first | assumption | exact SH.rsR H (by repeat first | exact At.here | apply At.there) | exact SH.rsO H (by repeat first | exact At.here | apply At.there)) (by omega) (by omega) | exact (Rs.nil : Rs Non _ _ _)) (by assumption) (by rfl) | assumption) ?_
      refine r_add rfl rfl rfl (wr_i64 (by omega) (by omega)) ?_
      refine r_nilCheck rfl rfl ?_
      refine r_fieldAddrO rfl Try.underlying71 rfl Try.sizeOf3 (by decide) (show _ = 1 from rfl) rfl ?_
      refine s_store H Try.sizeOf3 rfl (by simp only [upd_get, ev, Nat.reduceEqDiff, ↓reduceIte] <;> rfl) (by first | rfl | exact Rs.oneC (by first | assumption | exact SH.rsR H (by repeat first | exact At.here | apply At.there) | exact SH.rsO H (by repeat first | exact At.here | apply At.there) | exact Rs.toH (by first | assumption | exact SH.rsR H (by repeat first | exact At.here | apply At.there) | exact SH.rsO H (by repeat first | exact At.here | apply At.there)) (by omega) | exact Rs.toL (by first | assumption | exact SH.rsR H (by repeat first | exact At.here | apply At.there) | exact SH.rsO H (by repeat first | exact At.here | apply At.there)) (by omega) | exact Rs.toLH (by first | assumption | exact SH.rsR H (by repeat first | exact At.here | apply At.there) | exact SH.rsO H (by repeat first | exact At.here | apply At.there)) (by omega) (by omega) | exact (Rs.nil : Rs Non _ _ _)) | (simp only [List.all_cons, List.all_nil, Bool.and_true, Bool.and_eq_true, Row.cells, Flight.L]; (repeat' constructor) <;> first | rfl | exact Rs.oneC (by first | assumption | exact SH.rsR H (by repeat first | exact At.here | apply At.there) | exact SH.rsO H (by repeat first | exact At.here | apply At.there) | exact Rs.toH (by first | assumption | exact SH.rsR H (by repeat first | exact At.here | apply At.there) | exact SH.rsO H (by repeat first | exact At.here | apply At.there)) (by omega) | exact Rs.toL (by first | assumption | exact SH.rsR H (by repeat first | exact At.here | apply At.there) | exact SH.rsO H (by repeat first | exact At.here | apply At.there)) (by omega) | exact Rs.toLH (by first | assumption | exact SH.rsR H (by repeat first | exact At.here | apply At.there) | exact SH.rsO H (by repeat first | exact At.here | apply At.there)) (by omega) (by omega) | exact (Rs.nil : Rs Non _ _ _)))) (by repeat first | exact At.here | apply At.there) (by first | (simp; done) | decide | omega) ?_
      clear H
      intro w6_7 H
      try dsimp only [replC, List.cons_append, List.nil_append, List.append_nil, agg, cellsL, Value.cells, List.toList_toArray, List.set_cons_zero, List.set_cons_succ, spliceL, List.take_succ_cons, List.take_zero, List.drop_succ_cons, List.drop_zero, List.length_cons, List.length_nil, Nat.reduceAdd, Row.cells, Flight.L] at H
      refine LW.nil ?_
      refine thenE_norm ?_
      refine cut (K := K7) [] (fun σ => ?_)
      simp only [setL, keepE, upd_get, ev, Nat.reduceEqDiff, ↓reduceIte]
      refine h7 _ _ ?_; clear h7; try clear K7
      refine CW.seq (fun K8 h8 => ?_)
      refine CW.region ?_
      refine r_assign rfl ?_
      refine LW.nil ?_
      refine thenE_norm (h8 _ _ ?_); clear h8; try clear K8
      refine CW.ret (blockE_ret (thenE_ret (ret1 Try.results13 (by simp only [upd_get, ev, Nat.reduceEqDiff, ↓reduceIte]; rfl) ?_)))
      rw [netPut, if_neg (by show ¬ 2048 < xs.length; omega), if_pos (by omega)]
      obtain ⟨FN', K⟩ := NetA.mk hsm (SH.sel H [0, 1, 2] (by decide) (by rfl))
      exact ⟨_, rfl, K⟩
    · try simp only [decide_eq_true_eq, decide_eq_false_iff_not, Bool.and_eq_true, Bool.or_eq_true, Bool.and_eq_false_iff, Bool.or_eq_false_iff, Bool.not_eq_true', Bool.not_eq_false', beq_iff_eq, bne_iff_ne, ne_eq, Decidable.not_not] at hc3
      refine CW.skip ?_
      refine blockE_norm ?_
      refine thenE_norm (h2 _ _ ?_); clear h2; try clear K2
      refine CW.seq (fun K9 h9 => ?_)
      refine CW.drawP [0, 4] [11] H (by dsimp only [pickC, nthC] <;> rfl) (by repeat first | exact List.Sublist.refl _ | exact List.nil_sublist _ | apply List.Sublist.cons_cons | apply List.Sublist.cons) (by kernel_rfl) rfl ?_
      clear H
      intro w8d H
      refine DL.take (i := 0) [0, 9, 10, 11] rfl (by kernel_rfl) (by kernel_rfl) (by kernel_rfl) (by kernel_rfl) rfl rfl (fun u H => x_move ) (SH.sub H (by repeat first | exact List.Sublist.refl _ | exact List.nil_sublist _ | apply List.Sublist.cons_cons | apply List.Sublist.cons)) ?_
      refine DL.take (i := 1) [1, 2, 3, 4, 8, 9, 10, 11] rfl (by kernel_rfl) (by kernel_rfl) (by kernel_rfl) (by kernel_rfl) rfl rfl (fun u H => x_move ) (SH.sub H (by repeat first | exact List.Sublist.refl _ | exact List.nil_sublist _ | apply List.Sublist.cons_cons | apply List.Sublist.cons)) ?_
      refine DL.take (i := 2) [2, 3, 4, 8, 9, 10, 11] rfl (by kernel_rfl) (by kernel_rfl) (by kernel_rfl) (by kernel_rfl) rfl rfl (fun u H => x_nilCheck rfl) (SH.sub H (by repeat first | exact List.Sublist.refl _ | exact List.nil_sublist _ | apply List.Sublist.cons_cons | apply List.Sublist.cons)) ?_
      refine DL.take (i := 3) [3, 4, 8, 9, 10, 11] rfl (by kernel_rfl) (by kernel_rfl) (by kernel_rfl) (by kernel_rfl) rfl rfl (fun u H => x_fieldAddrO Try.underlying71 rfl Try.sizeOf40 (by decide) (show _ = 0 from rfl) rfl) (SH.sub H (by repeat first | exact List.Sublist.refl _ | exact List.nil_sublist _ | apply List.Sublist.cons_cons | apply List.Sublist.cons)) ?_
      refine DL.take (i := 4) [4, 8, 9, 10, 11] rfl (by kernel_rfl) (by kernel_rfl) (by kernel_rfl) (by kernel_rfl) rfl rfl (fun u H => x_load Try.isAgg40 rfl (by first | exact SH.cellB H (by repeat first | exact At.here | apply At.there) (by rfl) | exact SH.cellI H (by repeat first | exact At.here | apply At.there) (by rfl) | exact Rs.cell (by first | assumption | exact SH.rsR H (by repeat first | exact At.here | apply At.there) | exact SH.rsO H (by repeat first | exact At.here | apply At.there) | exact Rs.toH (by first | assumption | exact SH.rsR H (by repeat first | exact At.here | apply At.there) | exact SH.rsO H (by repeat first | exact At.here | apply At.there)) (by omega) | exact Rs.toL (by first | assumption | exact SH.rsR H (by repeat first | exact At.here | apply At.there) | exact SH.rsO H (by repeat first | exact At.here | apply At.there)) (by omega) | exact Rs.toLH (by first | assumption | exact SH.rsR H (by repeat first | exact At.here | apply At.there) | exact SH.rsO H (by repeat first | exact At.here | apply At.there)) (by omega) (by omega) | exact (Rs.nil : Rs Non _ _ _)) (by assumption) (by rfl) | exact Rs.cell0 (by first | assumption | exact SH.rsR H (by repeat first | exact At.here | apply At.there) | exact SH.rsO H (by repeat first | exact At.here | apply At.there) | exact Rs.toH (by first | assumption | exact SH.rsR H (by repeat first | exact At.here | apply At.there) | exact SH.rsO H (by repeat first | exact At.here | apply At.there)) (by omega) | exact Rs.toL (by first | assumption | exact SH.rsR H (by repeat first | exact At.here | apply At.there) | exact SH.rsO H (by repeat first | exact At.here | apply At.there)) (by omega) | exact Rs.toLH (by first | assumption | exact SH.rsR H (by repeat first | exact At.here | apply At.there) | exact SH.rsO H (by repeat first | exact At.here | apply At.there)) (by omega) (by omega) | exact (Rs.nil : Rs Non _ _ _)) (by assumption) (by rfl) | assumption)) (SH.sub H (by repeat first | exact List.Sublist.refl _ | exact List.nil_sublist _ | apply List.Sublist.cons_cons | apply List.Sublist.cons)) ?_
      refine DL.take (i := 5) [5, 6, 7, 8, 9, 10, 11] rfl (by kernel_rfl) (by kernel_rfl) (by kernel_rfl) (by kernel_rfl) rfl rfl (fun u H => x_loadA Try.isAgg29 Try.sizeOf29 rfl (by first | exact SH.cells H (by repeat first | exact At.here | apply At.there) | exact Rs.cells0 (by first | assumption | exact SH.rsR H (by repeat first | exact At.here | apply At.there) | exact SH.rsO H (by repeat first | exact At.here | apply At.there) | exact Rs.toH (by first | assumption | exact SH.rsR H (by repeat first | exact At.here | apply At.there) | exact SH.rsO H (by repeat first | exact At.here | apply At.there)) (by omega) | exact Rs.toL (by first | assumption | exact SH.rsR H (by repeat first | exact At.here | apply At.there) | exact SH.rsO H (by repeat first | exact At.here | apply At.there)) (by omega) | exact Rs.toLH (by first | assumption | exact SH.rsR H (by repeat first | exact At.here | apply At.there) | exact SH.rsO H (by repeat first | exact At.here | apply At.there)) (by omega) (by omega) | exact (Rs.nil : Rs Non _ _ _)) (by assumption)) (by rfl)) (SH.sub H (by repeat first | exact List.Sublist.refl _ | exact List.nil_sublist _ | apply List.Sublist.cons_cons | apply List.Sublist.cons)) ?_
      refine DL.one (i := 6) (by kernel_rfl) rfl rfl ?_
      refine r_call rfl Try.call41 (by simp only [List.map_cons, List.map_nil, List.map_toArray, List.toList_toArray, upd_get, ev, Nat.reduceEqDiff, ↓reduceIte] <;> rfl) (kept_c ⟨_, _, _, _⟩ _ (by first | assumption | exact SH.rsR H (by repeat first | exact At.here | apply At.there) | exact SH.rsO H (by repeat first | exact At.here | apply At.there) | exact Rs.toH (by first | assumption | exact SH.rsR H (by repeat first | exact At.here | apply At.there) | exact SH.rsO H (by repeat first | exact At.here | apply At.there)) (by omega) | exact Rs.toL (by first | assumption | exact SH.rsR H (by repeat first | exact At.here | apply At.there) | exact SH.rsO H (by repeat first | exact At.here | apply At.there)) (by omega) | exact Rs.toLH (by first | assumption | exact SH.rsR H (by repeat first | exact At.here | apply At.there) | exact SH.rsO H (by repeat first | exact At.here | apply At.there)) (by omega) (by omega) | exact (Rs.nil : Rs Non _ _ _)) (by first | omega | (simp only [List.length_append, List.length_cons, List.length_nil]; omega) | (simp; omega))) ?_
      rintro _ w8_6 ⟨v8_6, g8_6, rfl, K⟩
      refine ⟨_, rfl, ?_⟩
      replace H := SH.call H K
      clear K
      try dsimp only [replC, List.cons_append, List.nil_append, List.append_nil, agg, cellsL, Value.cells, List.toList_toArray, List.set_cons_zero, List.set_cons_succ, spliceL, List.take_succ_cons, List.take_zero, List.drop_succ_cons, List.drop_zero, List.length_cons, List.length_nil, Nat.reduceAdd, Row.cells, Flight.L] at H
      refine LW.nil (thenE_norm ⟨fun _ => (SH.sub H (by repeat first | exact List.Sublist.refl _ | exact List.nil_sublist _ | apply List.Sublist.cons_cons | apply List.Sublist.cons)), ?_⟩)
      refine DL.one (i := 7) (by kernel_rfl) rfl rfl ?_
      refine r_buildSliceA (vs := [_]) rfl Try.underlying40 Try.sizeOf29 Try.zeroValue29 rfl rfl rfl rfl (by simp only [List.map_cons, List.map_nil, List.toList_toArray, numbered, Nat.reduceAdd, upd_get, ev, Nat.reduceEqDiff, ↓reduceIte] <;> rfl) rfl (by intro v hv; simp only [List.mem_cons, List.not_mem_nil, or_false] at hv; rcases hv with rfl <;> rfl) ?_
      intro b8_7 w8_7 hb8_7 hs8_7 hE8_7 hB8_7
      replace H := SH.call H (SH.fromB hE8_7 hb8_7 hs8_7 hB8_7)
      clear hb8_7 hs8_7 hE8_7 hB8_7
      try dsimp only [replC, List.cons_append, List.nil_append, List.append_nil, agg, cellsL, Value.cells, List.toList_toArray, List.set_cons_zero, List.set_cons_succ, spliceL, List.take_succ_cons, List.take_zero, List.drop_succ_cons, List.drop_zero, List.length_cons, List.length_nil, Nat.reduceAdd, Row.cells, Flight.L] at H
      replace H := SH.row (b := b8_7) (xs := ([⟨_, _, _, _⟩] : List Flight)) (n := 1) (cap := 1) H (by repeat first | exact At.here | apply At.there) (by simp only [flat, List.flatMap_cons, List.flatMap_nil, cellsL, agg, List.append_nil, List.cons_append, List.nil_append, List.toList_toArray, Row.cells, Flight.L] <;> rfl) (by intro x hx; first | rfl | (simp at hx; done) | (simp only [List.mem_cons, List.not_mem_nil, or_false] at hx; rcases hx with rfl <;> first | rfl | exact (by first | rfl | exact Rs.oneC (by first | assumption | exact SH.rsR H (by repeat first | exact At.here | apply At.there) | exact SH.rsO H (by repeat first | exact At.here | apply At.there) | exact Rs.toH (by first | assumption | exact SH.rsR H (by repeat first | exact At.here | apply At.there) | exact SH.rsO H (by repeat first | exact At.here | apply At.there)) (by omega) | exact Rs.toL (by first | assumption | exact SH.rsR H (by repeat first | exact At.here | apply At.there) | exact SH.rsO H (by repeat first | exact At.here | apply At.there)) (by omega) | exact Rs.toLH (by first | assumption | exact SH.rsR H (by repeat first | exact At.here | apply At.there) | exact SH.rsO H (by repeat first | exact At.here | apply At.there)) (by omega) (by omega) | exact (Rs.nil : Rs Non _ _ _)) | (simp only [List.all_cons, List.all_nil, Bool.and_true, Bool.and_eq_true, Row.cells, Flight.L]; (repeat' constructor) <;> first | rfl | exact Rs.oneC (by first | assumption | exact SH.rsR H (by repeat first | exact At.here | apply At.there) | exact SH.rsO H (by repeat first | exact At.here | apply At.there) | exact Rs.toH (by first | assumption | exact SH.rsR H (by repeat first | exact At.here | apply At.there) | exact SH.rsO H (by repeat first | exact At.here | apply At.there)) (by omega) | exact Rs.toL (by first | assumption | exact SH.rsR H (by repeat first | exact At.here | apply At.there) | exact SH.rsO H (by repeat first | exact At.here | apply At.there)) (by omega) | exact Rs.toLH (by first | assumption | exact SH.rsR H (by repeat first | exact At.here | apply At.there) | exact SH.rsO H (by repeat first | exact At.here | apply At.there)) (by omega) (by omega) | exact (Rs.nil : Rs Non _ _ _)))))) (by rfl) rfl (by decide)
      try dsimp only [replC, List.cons_append, List.nil_append, List.append_nil, agg, cellsL, Value.cells, List.toList_toArray, List.set_cons_zero, List.set_cons_succ, spliceL, List.take_succ_cons, List.take_zero, List.drop_succ_cons, List.drop_zero, List.length_cons, List.length_nil, Nat.reduceAdd, Row.cells, Flight.L] at H
      refine LW.nil (thenE_norm ⟨fun _ => (SH.sub H (by repeat first | exact List.Sublist.refl _ | exact List.nil_sublist _ | apply List.Sublist.cons_cons | apply List.Sublist.cons)), ?_⟩)
      refine DL.one (i := 8) (by kernel_rfl) rfl rfl ?_
      first
        | refine s_append H rfl Try.underlying40 Try.underlying40 Try.type29 rfl (by simp only [upd_get, ev, Nat.reduceEqDiff, ↓reduceIte] <;> rfl) (by simp only [upd_get, ev, Nat.reduceEqDiff, ↓reduceIte] <;> rfl) (by repeat first | exact At.here | apply At.there) (by first | assumption | exact SH.rsR H (by repeat first | exact At.here | apply At.there) | exact SH.rsO H (by repeat first | exact At.here | apply At.there) | exact Rs.toH (by first | assumption | exact SH.rsR H (by repeat first | exact At.here | apply At.there) | exact SH.rsO H (by repeat first | exact At.here | apply At.there)) (by omega) | exact Rs.toL (by first | assumption | exact SH.rsR H (by repeat first | exact At.here | apply At.there) | exact SH.rsO H (by repeat first | exact At.here | apply At.there)) (by omega) | exact Rs.toLH (by first | assumption | exact SH.rsR H (by repeat first | exact At.here | apply At.there) | exact SH.rsO H (by repeat first | exact At.here | apply At.there)) (by omega) (by omega) | exact (Rs.nil : Rs Non _ _ _)) (by rfl) (by rfl) (by first | omega | (simp only [Try.t29, List.length_append, List.length_cons, List.length_nil, List.length_map, maxLen]; omega) | (simp [Try.t29, maxLen]; omega)) (by first | omega | (simp only [Try.t29, List.length_append, List.length_cons, List.length_nil, List.length_map, maxLen]; omega) | (simp [Try.t29, maxLen]; omega)) ?_
        | refine s_appendNil H rfl Try.underlying40 Try.underlying40 Try.type29 rfl rfl (by simp only [upd_get, ev, Nat.reduceEqDiff, ↓reduceIte] <;> rfl) (by first | assumption | exact SH.rsR H (by repeat first | exact At.here | apply At.there) | exact SH.rsO H (by repeat first | exact At.here | apply At.there) | exact Rs.toH (by first | assumption | exact SH.rsR H (by repeat first | exact At.here | apply At.there) | exact SH.rsO H (by repeat first | exact At.here | apply At.there)) (by omega) | exact Rs.toL (by first | assumption | exact SH.rsR H (by repeat first | exact At.here | apply At.there) | exact SH.rsO H (by repeat first | exact At.here | apply At.there)) (by omega) | exact Rs.toLH (by first | assumption | exact SH.rsR H (by repeat first | exact At.here | apply At.there) | exact SH.rsO H (by repeat first | exact At.here | apply At.there)) (by omega) (by omega) | exact (Rs.nil : Rs Non _ _ _)) (by rfl) (by rfl) (by first | omega | (simp only [Try.t29, List.length_append, List.length_cons, List.length_nil, List.length_map, maxLen]; omega) | (simp [Try.t29, maxLen]; omega)) ?_
      clear H
      intro v8_8 w8_8 g8_8 H hN8_8
      try dsimp only [replC, List.cons_append, List.nil_append, List.append_nil, agg, cellsL, Value.cells, List.toList_toArray, List.set_cons_zero, List.set_cons_succ, spliceL, List.take_succ_cons, List.take_zero, List.drop_succ_cons, List.drop_zero, List.length_cons, List.length_nil, Nat.reduceAdd, Row.cells, Flight.L] at H
      refine LW.nil (thenE_norm ⟨fun _ => (SH.sub H (by repeat first | exact List.Sublist.refl _ | exact List.nil_sublist _ | apply List.Sublist.cons_cons | apply List.Sublist.cons)), ?_⟩)
      refine DL.take (i := 9) [9, 10, 11] rfl (by kernel_rfl) (by kernel_rfl) (by kernel_rfl) (by kernel_rfl) rfl rfl (fun u H => x_nilCheck rfl) (SH.sub H (by repeat first | exact List.Sublist.refl _ | exact List.nil_sublist _ | apply List.Sublist.cons_cons | apply List.Sublist.cons)) ?_
      refine DL.take (i := 10) [10, 11] rfl (by kernel_rfl) (by kernel_rfl) (by kernel_rfl) (by kernel_rfl) rfl rfl (fun u H => x_fieldAddrO Try.underlying71 rfl Try.sizeOf40 (by decide) (show _ = 0 from rfl) rfl) (SH.sub H (by repeat first | exact List.Sublist.refl _ | exact List.nil_sublist _ | apply List.Sublist.cons_cons | apply List.Sublist.cons)) ?_
      refine DL.one (i := 11) (by kernel_rfl) rfl rfl ?_
      refine s_store H Try.sizeOf40 rfl (by simp only [upd_get, ev, Nat.reduceEqDiff, ↓reduceIte] <;> rfl) (by first | rfl | exact Rs.oneC (by first | assumption | exact SH.rsR H (by repeat first | exact At.here | apply At.there) | exact SH.rsO H (by repeat first | exact At.here | apply At.there) | exact Rs.toH (by first | assumption | exact SH.rsR H (by repeat first | exact At.here | apply At.there) | exact SH.rsO H (by repeat first | exact At.here | apply At.there)) (by omega) | exact Rs.toL (by first | assumption | exact SH.rsR H (by repeat first | exact At.here | apply At.there) | exact SH.rsO H (by repeat first | exact At.here | apply At.there)) (by omega) | exact Rs.toLH (by first | assumption | exact SH.rsR H (by repeat first | exact At.here | apply At.there) | exact SH.rsO H (by repeat first | exact At.here | apply At.there)) (by omega) (by omega) | exact (Rs.nil : Rs Non _ _ _)) | (simp only [List.all_cons, List.all_nil, Bool.and_true, Bool.and_eq_true, Row.cells, Flight.L]; (repeat' constructor) <;> first | rfl | exact Rs.oneC (by first | assumption | exact SH.rsR H (by repeat first | exact At.here | apply At.there) | exact SH.rsO H (by repeat first | exact At.here | apply At.there) | exact Rs.toH (by first | assumption | exact SH.rsR H (by repeat first | exact At.here | apply At.there) | exact SH.rsO H (by repeat first | exact At.here | apply At.there)) (by omega) | exact Rs.toL (by first | assumption | exact SH.rsR H (by repeat first | exact At.here | apply At.there) | exact SH.rsO H (by repeat first | exact At.here | apply At.there)) (by omega) | exact Rs.toLH (by first | assumption | exact SH.rsR H (by repeat first | exact At.here | apply At.there) | exact SH.rsO H (by repeat first | exact At.here | apply At.there)) (by omega) (by omega) | exact (Rs.nil : Rs Non _ _ _)))) (by repeat first | exact At.here | apply At.there) (by first | (simp; done) | decide | omega) ?_
      clear H
      intro w8_11 H
      try dsimp only [replC, List.cons_append, List.nil_append, List.append_nil, agg, cellsL, Value.cells, List.toList_toArray, List.set_cons_zero, List.set_cons_succ, spliceL, List.take_succ_cons, List.take_zero, List.drop_succ_cons, List.drop_zero, List.length_cons, List.length_nil, Nat.reduceAdd, Row.cells, Flight.L] at H
      refine LW.nil (thenE_norm ⟨fun h => Bool.noConfusion (show true = false from h), ?_⟩)
      refine DL.done (by kernel_rfl) ?_
      refine thenE_norm ?_
      refine cut (K := K9) [] (fun σ => ?_)
      simp only [setL, keepE, upd_get, ev, Nat.reduceEqDiff, ↓reduceIte]
      refine h9 _ _ ?_; clear h9; try clear K9
      refine CW.seq (fun K10 h10 => ?_)
      refine CW.region ?_
      refine r_assign rfl ?_
      refine LW.nil ?_
      refine thenE_norm (h10 _ _ ?_); clear h10; try clear K10
      refine CW.ret (ret1 Try.results13 (by simp only [upd_get, ev, Nat.reduceEqDiff, ↓reduceIte]; rfl) ?_)
      rw [netPut, if_neg (by show ¬ 2048 < xs.length; omega), if_neg (by omega)]
      have H2 := SH.absorb (A' := FlsA _ (raws ++ [⟨a.src, a.dst, a.born, v8_6⟩]) (ms ++ [⟨a.src, a.dst, a.born, xs⟩])) (SH.sel H [2, 5, 0, 1] (by decide) rfl) trivial fls_st (fun h k => All2.snoc (FlsA.mono h (fun b hb => .inl hb)) ⟨rfl, rfl, rfl, (Ow.rs k).mono fun b _ hb => .inr hb⟩)
      obtain ⟨FN', K⟩ := NetA.mk (lost := lost) (fun m hm => (List.mem_append.1 hm).elim (hsm m) (fun h => by rw [List.mem_singleton] at h; subst h; show xs.length ≤ 2048; omega)) (SH.sel H2 [1, 2, 0] (by decide) rfl)
      exact ⟨_, rfl, K⟩
theorem PutZ_c (a : Flight) (w : World) : Calls Try.prog 13 #[.pointer none, agg a] w fun e w' => e = .returned (.int .i64 6) ∧ Ext0 w w' := by
  have H := SH.start (U := Non) (G := Any) w
  refine calls_of_CW Try.func13 rfl Try.ntmps13 (Nat.le_of_ble_eq_true rfl) ?_
  simp only [argE, argFrom, Nat.reduceAdd]
  refine CW.seq (fun K1 h1 => ?_)
  refine CW.region ?_
  refine s_box H rfl (by simp only [upd_get, ev, Nat.reduceEqDiff, ↓reduceIte] <;> rfl) rfl ?_
  clear H
  intro b0_0 w0_0 H
  try dsimp only [replC, List.cons_append, List.nil_append, List.append_nil, agg, cellsL, Value.cells, List.toList_toArray, List.set_cons_zero, List.set_cons_succ, spliceL, List.take_succ_cons, List.take_zero, List.drop_succ_cons, List.drop_zero, List.length_cons, List.length_nil, Nat.reduceAdd, Row.cells, Flight.L] at H
  refine r_assign rfl ?_
  refine LW.nil ?_
  refine thenE_norm (h1 _ _ ?_); clear h1; try clear K1
  refine CW.seq (fun K2 h2 => ?_)
  refine CW.block ?_
  refine CW.seq (fun K3 h3 => ?_)
  refine CW.region ?_
  refine r_move rfl ?_
  refine r_eqlP rfl Try.underlying23 rfl rfl ?_
  refine r_assign rfl ?_
  refine LW.nil ?_
  refine thenE_norm (h3 _ _ ?_); clear h3; try clear K3
  refine CW.condT rfl (by first | rfl | (simp only [decide_eq_true_eq, decide_eq_false_iff_not, Bool.and_eq_true, Bool.or_eq_true, Bool.and_eq_false_iff, Bool.or_eq_false_iff, Bool.not_eq_true', Bool.not_eq_false', beq_iff_eq, bne_iff_ne]; omega) | simp_all) ?_
  refine CW.seq (fun K4 h4 => ?_)
  refine CW.region ?_
  refine r_assign rfl ?_
  refine LW.nil ?_
  refine thenE_norm (h4 _ _ ?_); clear h4; try clear K4
  refine CW.ret (blockE_ret (thenE_ret (ret1 Try.results13 (by simp only [upd_get, ev, Nat.reduceEqDiff, ↓reduceIte]; rfl) ?_)))
  exact ⟨rfl, H.ext⟩

/-- The flight at a place, if there is one. -/
def netAt (ms : List Fl) (i : Int) : Fl × Bool := if 0 ≤ i ∧ i < ms.length then (ms.getD i.toNat ⟨0, 0, 0, []⟩, true) else (⟨0, 0, 0, []⟩, false)
theorem netAt_in {ms : List Fl} {i : Int} {m : Fl} (h0 : 0 ≤ i) (h : ms[i.toNat]? = some m) : netAt ms i = (m, true) := by
  have hl := lt_of_get h
  rw [netAt, if_pos ⟨h0, by omega⟩, List.getD_eq_getElem?_getD, h]; rfl
theorem Look_c {p : Nat} {ms : List Fl} {lost : Int} {FN : Nat → Prop} (i : Int) (w : World) (hN : NetA p ms lost FN w) :
    Calls Try.prog 16 #[.pointer (some ⟨p, 0, none⟩), .int .i64 i] w fun e w' => ∃ v g, e = .returned (.tuple #[agg (⟨(netAt ms i).1.src, (netAt ms i).1.dst, (netAt ms i).1.born, v⟩ : Flight), .bool (netAt ms i).2]) ∧
      SH Non Non w w' [.O 5 v (netAt ms i).1.bytes g] := by
  have hN' := hN
  obtain ⟨hsm, v, raws, g, F, hA⟩ := hN
  have H := SH.look hA
  simp only [List.map_cons, List.map_nil, toImm] at H
  have hls : FlsA F raws ms w := SH.propI H (i := 2) rfl
  have hl : raws.length = ms.length := All2.len hls
  refine calls_of_CW Try.func16 rfl Try.ntmps16 (Nat.le_of_ble_eq_true rfl) ?_
  simp only [argE, argFrom, Nat.reduceAdd]
  refine CW.seq (fun K1 h1 => ?_)
  refine CW.region ?_
  refine s_alloc (cs := [.int .i64 0, .int .i64 0, .int .i64 0, .slice none 0 0]) H rfl Try.zeroValue29 rfl ?_
  clear H
  intro b0_0 w0_0 H
  try dsimp only [replC, List.cons_append, List.nil_append, List.append_nil, agg, cellsL, Value.cells, List.toList_toArray, List.set_cons_zero, List.set_cons_succ, spliceL, List.take_succ_cons, List.take_zero, List.drop_succ_cons, List.drop_zero, List.length_cons, List.length_nil, Nat.reduceAdd, Row.cells, Flight.L] at H
  refine r_assign rfl ?_
  refine LW.nil ?_
  refine thenE_norm (h1 _ _ ?_); clear h1; try clear K1
  refine CW.seq (fun K2 h2 => ?_)
  refine CW.seq (fun K3 h3 => ?_)
  refine CW.region ?_
  refine r_move rfl ?_
  refine r_lss rfl rfl rfl ?_
  refine r_move rfl ?_
  refine' LW.grpOr (n := 5) (ts := [0, 1, 4]) (d := 13) (tj := 8) rfl (fun hg1_3 => ?_) (fun hg1_3 => ?_) (fun σ => ?_)
  rotate_left
  · simp only [List.take_succ_cons, List.take_zero]
    have hg1_3P := hg1_3
    try simp only [decide_eq_true_eq, decide_eq_false_iff_not, Bool.and_eq_true, Bool.or_eq_true, Bool.and_eq_false_iff, Bool.or_eq_false_iff, Bool.not_eq_true', Bool.not_eq_false', beq_iff_eq, bne_iff_ne] at hg1_3P
    refine LW.want rfl rfl hg1_3 ?_
    refine r_move rfl ?_
    refine LW.want rfl rfl hg1_3 ?_
    refine r_move rfl ?_
    refine LW.want rfl rfl hg1_3 ?_
    refine r_call rfl Try.call17 (by simp only [List.map_cons, List.map_nil, List.map_toArray, List.toList_toArray, upd_get, ev, Nat.reduceEqDiff, ↓reduceIte] <;> rfl) (Len_c _ (by exact hN'.upx (SH.ext H))) ?_
    rintro _ _ ⟨rfl, rfl⟩
    refine ⟨_, rfl, ?_⟩
    refine LW.want rfl rfl hg1_3 ?_
    refine r_geq rfl rfl rfl ?_
    refine r_pickF rfl rfl hg1_3 ?_
    refine LW.nil (thenE_norm ⟨rfl, rfl, rfl⟩)
  · simp only [List.take_succ_cons, List.take_zero]
    refine LW.skip rfl (fun _ e => by cases e; decide) rfl hg1_3 ?_
    refine LW.skip rfl (fun _ e => by cases e; decide) rfl hg1_3 ?_
    refine LW.skip rfl (fun _ e => by cases e; decide) rfl hg1_3 ?_
    refine LW.skip rfl (fun _ e => by cases e; decide) rfl hg1_3 ?_
    refine r_pickT rfl rfl hg1_3 ?_
    refine LW.nil (thenE_norm ⟨rfl, rfl, rfl⟩)
  simp only [setL, keepE, upd_get, ev, Nat.reduceEqDiff, ↓reduceIte]; simp only [List.drop_succ_cons, List.drop_zero]
  refine LW.nil ?_
  refine thenE_norm (h3 _ _ ?_); clear h3; try clear K3
  refine CW.cond rfl (fun hc1 => ?_) (fun hc1 => ?_)
  · try simp only [decide_eq_true_eq, decide_eq_false_iff_not, Bool.and_eq_true, Bool.or_eq_true, Bool.and_eq_false_iff, Bool.or_eq_false_iff, Bool.not_eq_true', Bool.not_eq_false', beq_iff_eq, bne_iff_ne, ne_eq, Decidable.not_not] at hc1
    refine CW.seq (fun K4 h4 => ?_)
    refine CW.region ?_
    refine r_buildQ rfl Try.underlying29 Try.zeroValue29 rfl (pl := [(0, 1), (1, 1), (2, 1), (3, 1)]) (by intro w; simp [go_sem]) (qs := []) (cs := [.int .i64 0, .int .i64 0, .int .i64 0, .slice none 0 0]) trivial rfl ?_
    refine s_storeA H Try.sizeOf29 rfl (by simp only [upd_get, ev, Nat.reduceEqDiff, ↓reduceIte] <;> rfl) (by simp only [cellsL, agg, List.toList_toArray, Row.cells, Flight.L] <;> rfl) (by rfl) (by first | rfl | exact Rs.oneC (by first | assumption | exact SH.rsR H (by repeat first | exact At.here | apply At.there) | exact SH.rsO H (by repeat first | exact At.here | apply At.there) | exact Rs.toH (by first | assumption | exact SH.rsR H (by repeat first | exact At.here | apply At.there) | exact SH.rsO H (by repeat first | exact At.here | apply At.there)) (by omega) | exact Rs.toL (by first | assumption | exact SH.rsR H (by repeat first | exact At.here | apply At.there) | exact SH.rsO H (by repeat first | exact At.here | apply At.there)) (by omega) | exact Rs.toLH (by first | assumption | exact SH.rsR H (by repeat first | exact At.here | apply At.there) | exact SH.rsO H (by repeat first | exact At.here | apply At.there)) (by omega) (by omega) | exact (Rs.nil : Rs Non _ _ _)) | (simp only [List.all_cons, List.all_nil, Bool.and_true, Bool.and_eq_true, Row.cells, Flight.L]; (repeat' constructor) <;> first | rfl | exact Rs.oneC (by first | assumption | exact SH.rsR H (by repeat first | exact At.here | apply At.there) | exact SH.rsO H (by repeat first | exact At.here | apply At.there) | exact Rs.toH (by first | assumption | exact SH.rsR H (by repeat first | exact At.here | apply At.there) | exact SH.rsO H (by repeat first | exact At.here | apply At.there)) (by omega) | exact Rs.toL (by first | assumption | exact SH.rsR H (by repeat first | exact At.here | apply At.there) | exact SH.rsO H (by repeat first | exact At.here | apply At.there)) (by omega) | exact Rs.toLH (by first | assumption | exact SH.rsR H (by repeat first | exact At.here | apply At.there) | exact SH.rsO H (by repeat first | exact At.here | apply At.there)) (by omega) (by omega) | exact (Rs.nil : Rs Non _ _ _)))) (by repeat first | exact At.here | apply At.there) (by first | (simp; done) | decide | (show _ ≤ _; decide)) ?_
    clear H
    intro w2_1 H
    try dsimp only [replC, List.cons_append, List.nil_append, List.append_nil, agg, cellsL, Value.cells, List.toList_toArray, List.set_cons_zero, List.set_cons_succ, spliceL, List.take_succ_cons, List.take_zero, List.drop_succ_cons, List.drop_zero, List.length_cons, List.length_nil, Nat.reduceAdd, Row.cells, Flight.L] at H
    refine r_assign rfl ?_
    refine LW.nil ?_
    refine thenE_norm (h4 _ _ ?_); clear h4; try clear K4
    refine CW.ret (thenE_ret (retC2 Try.results16 (by simp only [upd_get, ev, Nat.reduceEqDiff, ↓reduceIte] <;> rfl) (by simp only [upd_get, ev, Nat.reduceEqDiff, ↓reduceIte] <;> rfl) Try.isAgg29 Try.sizeOf29 (by exact SH.cells H (by repeat first | exact At.here | apply At.there)) (by rfl) ?_))
    rw [netAt, if_neg (by omega)]
    exact ⟨_, none, rfl, SH.give (H.addO (α := UInt8) 5) (by repeat first | exact List.Sublist.refl _ | exact List.nil_sublist _ | apply List.Sublist.cons_cons | apply List.Sublist.cons) ⟨trivial, trivial⟩⟩
  · try simp only [decide_eq_true_eq, decide_eq_false_iff_not, Bool.and_eq_true, Bool.or_eq_true, Bool.and_eq_false_iff, Bool.or_eq_false_iff, Bool.not_eq_true', Bool.not_eq_false', beq_iff_eq, bne_iff_ne, ne_eq, Decidable.not_not] at hc1
    refine CW.skip ?_
    refine thenE_norm (h2 _ _ ?_); clear h2; try clear K2
    refine CW.seq (fun K5 h5 => ?_)
    obtain ⟨r, hr⟩ := get_of_lt (show i.toNat < raws.length by omega)
    obtain ⟨m, hm, hrm⟩ := All2.get hls hr
    obtain ⟨e1, e2, e3, hbs⟩ := hrm
    have hml := hsm m (List.mem_of_getElem? hm)
    refine CW.region ?_
    refine r_move rfl ?_
    refine r_nilCheck rfl rfl ?_
    refine r_fieldAddrO rfl Try.underlying71 rfl Try.sizeOf40 (by decide) (show _ = 0 from rfl) rfl ?_
    refine r_load rfl Try.isAgg40 rfl (by first | exact SH.cellB H (by repeat first | exact At.here | apply At.there) (by rfl) | exact SH.cellI H (by repeat first | exact At.here | apply At.there) (by rfl) | exact Rs.cell (by first | assumption | exact SH.rsR H (by repeat first | exact At.here | apply At.there) | exact SH.rsO H (by repeat first | exact At.here | apply At.there) | exact Rs.toH (by first | assumption | exact SH.rsR H (by repeat first | exact At.here | apply At.there) | exact SH.rsO H (by repeat first | exact At.here | apply At.there)) (by omega) | exact Rs.toL (by first | assumption | exact SH.rsR H (by repeat first | exact At.here | apply At.there) | exact SH.rsO H (by repeat first | exact At.here | apply At.there)) (by omega) | exact Rs.toLH (by first | assumption | exact SH.rsR H (by repeat first | exact At.here | apply At.there) | exact SH.rsO H (by repeat first | exact At.here | apply At.there)) (by omega) (by omega) | exact (Rs.nil : Rs Non _ _ _)) (by assumption) (by rfl) | exact Rs.cell0 (by first | assumption | exact SH.rsR H (by repeat first | exact At.here | apply At.there) | exact SH.rsO H (by repeat first | exact At.here | apply At.there) | exact Rs.toH (by first | assumption | exact SH.rsR H (by repeat first | exact At.here | apply At.there) | exact SH.rsO H (by repeat first | exact At.here | apply At.there)) (by omega) | exact Rs.toL (by first | assumption | exact SH.rsR H (by repeat first | exact At.here | apply At.there) | exact SH.rsO H (by repeat first | exact At.here | apply At.there)) (by omega) | exact Rs.toLH (by first | assumption | exact SH.rsR H (by repeat first | exact At.here | apply At.there) | exact SH.rsO H (by repeat first | exact At.here | apply At.there)) (by omega) (by omega) | exact (Rs.nil : Rs Non _ _ _)) (by assumption) (by rfl) | assumption) ?_
    refine r_move rfl ?_
    refine r_indexAddrV rfl Try.underlying40 (by simp only [upd_get, ev, Nat.reduceEqDiff, ↓reduceIte] <;> rfl) rfl (by first | assumption | exact SH.rsR H (by repeat first | exact At.here | apply At.there) | exact SH.rsO H (by repeat first | exact At.here | apply At.there) | exact Rs.toH (by first | assumption | exact SH.rsR H (by repeat first | exact At.here | apply At.there) | exact SH.rsO H (by repeat first | exact At.here | apply At.there)) (by omega) | exact Rs.toL (by first | assumption | exact SH.rsR H (by repeat first | exact At.here | apply At.there) | exact SH.rsO H (by repeat first | exact At.here | apply At.there)) (by omega) | exact Rs.toLH (by first | assumption | exact SH.rsR H (by repeat first | exact At.here | apply At.there) | exact SH.rsO H (by repeat first | exact At.here | apply At.there)) (by omega) (by omega) | exact (Rs.nil : Rs Non _ _ _)) (by exact Try.sizeOf29) (by omega) (by omega) ?_
    refine r_loadA rfl Try.isAgg29 Try.sizeOf29 rfl (by first | exact SH.cells H (by repeat first | exact At.here | apply At.there) | exact Rs.cells0 (by first | assumption | exact SH.rsR H (by repeat first | exact At.here | apply At.there) | exact SH.rsO H (by repeat first | exact At.here | apply At.there) | exact Rs.toH (by first | assumption | exact SH.rsR H (by repeat first | exact At.here | apply At.there) | exact SH.rsO H (by repeat first | exact At.here | apply At.there)) (by omega) | exact Rs.toL (by first | assumption | exact SH.rsR H (by repeat first | exact At.here | apply At.there) | exact SH.rsO H (by repeat first | exact At.here | apply At.there)) (by omega) | exact Rs.toLH (by first | assumption | exact SH.rsR H (by repeat first | exact At.here | apply At.there) | exact SH.rsO H (by repeat first | exact At.here | apply At.there)) (by omega) (by omega) | exact (Rs.nil : Rs Non _ _ _)) (by assumption)) (by rfl) ?_
    refine r_call rfl Try.call41 (by simp only [List.map_cons, List.map_nil, List.map_toArray, List.toList_toArray, upd_get, ev, Nat.reduceEqDiff, ↓reduceIte] <;> rfl) (kept_c r _ (hbs.up0 (SH.ext H)) (by first | omega | (simp only [List.length_append, List.length_cons, List.length_nil]; omega) | (simp; omega))) ?_
    rintro _ w3_7 ⟨v3_7, g3_7, rfl, K⟩
    refine ⟨_, rfl, ?_⟩
    replace H := SH.call H K
    clear K
    try dsimp only [replC, List.cons_append, List.nil_append, List.append_nil, agg, cellsL, Value.cells, List.toList_toArray, List.set_cons_zero, List.set_cons_succ, spliceL, List.take_succ_cons, List.take_zero, List.drop_succ_cons, List.drop_zero, List.length_cons, List.length_nil, Nat.reduceAdd, Row.cells, Flight.L] at H
    refine s_storeA H Try.sizeOf29 rfl (by simp only [upd_get, ev, Nat.reduceEqDiff, ↓reduceIte] <;> rfl) (by simp only [cellsL, agg, List.toList_toArray, Row.cells, Flight.L] <;> rfl) (by rfl) (by first | rfl | exact Rs.oneC (by first | assumption | exact SH.rsR H (by repeat first | exact At.here | apply At.there) | exact SH.rsO H (by repeat first | exact At.here | apply At.there) | exact Rs.toH (by first | assumption | exact SH.rsR H (by repeat first | exact At.here | apply At.there) | exact SH.rsO H (by repeat first | exact At.here | apply At.there)) (by omega) | exact Rs.toL (by first | assumption | exact SH.rsR H (by repeat first | exact At.here | apply At.there) | exact SH.rsO H (by repeat first | exact At.here | apply At.there)) (by omega) | exact Rs.toLH (by first | assumption | exact SH.rsR H (by repeat first | exact At.here | apply At.there) | exact SH.rsO H (by repeat first | exact At.here | apply At.there)) (by omega) (by omega) | exact (Rs.nil : Rs Non _ _ _)) | (simp only [List.all_cons, List.all_nil, Bool.and_true, Bool.and_eq_true, Row.cells, Flight.L]; (repeat' constructor) <;> first | rfl | exact Rs.oneC (by first | assumption | exact SH.rsR H (by repeat first | exact At.here | apply At.there) | exact SH.rsO H (by repeat first | exact At.here | apply At.there) | exact Rs.toH (by first | assumption | exact SH.rsR H (by repeat first | exact At.here | apply At.there) | exact SH.rsO H (by repeat first | exact At.here | apply At.there)) (by omega) | exact Rs.toL (by first | assumption | exact SH.rsR H (by repeat first | exact At.here | apply At.there) | exact SH.rsO H (by repeat first | exact At.here | apply At.there)) (by omega) | exact Rs.toLH (by first | assumption | exact SH.rsR H (by repeat first | exact At.here | apply At.there) | exact SH.rsO H (by repeat first | exact At.here | apply At.there)) (by omega) (by omega) | exact (Rs.nil : Rs Non _ _ _)))) (by repeat first | exact At.here | apply At.there) (by first | (simp; done) | decide | (show _ ≤ _; decide)) ?_
    clear H
    intro w3_8 H
    try dsimp only [replC, List.cons_append, List.nil_append, List.append_nil, agg, cellsL, Value.cells, List.toList_toArray, List.set_cons_zero, List.set_cons_succ, spliceL, List.take_succ_cons, List.take_zero, List.drop_succ_cons, List.drop_zero, List.length_cons, List.length_nil, Nat.reduceAdd, Row.cells, Flight.L] at H
    refine r_assign rfl ?_
    refine LW.nil ?_
    refine thenE_norm ?_
    refine cut (K := K5) [4, 5] (fun σ => ?_)
    simp only [setL, keepE, upd_get, ev, Nat.reduceEqDiff, ↓reduceIte]
    refine h5 _ _ ?_; clear h5; try clear K5
    refine CW.ret (retC2 Try.results16 (by simp only [upd_get, ev, Nat.reduceEqDiff, ↓reduceIte] <;> rfl) (by simp only [upd_get, ev, Nat.reduceEqDiff, ↓reduceIte] <;> rfl) Try.isAgg29 Try.sizeOf29 (by exact SH.cells H (by repeat first | exact At.here | apply At.there)) (by rfl) ?_)
    rw [netAt_in (by omega) hm]
    dsimp only
    rw [← e1, ← e2, ← e3]
    exact ⟨_, _, rfl, (SH.give (SH.sel H [4] (by decide) rfl) (List.Sublist.refl _) (by repeat first | exact trivial | refine ⟨trivial, ?_⟩))⟩
theorem LookZ_c (i : Int) (w : World) : Calls Try.prog 16 #[.pointer none, .int .i64 i] w fun e w' => e = .returned (.tuple #[agg (⟨0, 0, 0, .slice none 0 0⟩ : Flight), .bool false]) ∧ Ext0 w w' := by
  have H := SH.start (U := Non) (G := Any) w
  refine calls_of_CW Try.func16 rfl Try.ntmps16 (Nat.le_of_ble_eq_true rfl) ?_
  simp only [argE, argFrom, Nat.reduceAdd]
  refine CW.seq (fun K1 h1 => ?_)
  refine CW.region ?_
  refine s_alloc (cs := [.int .i64 0, .int .i64 0, .int .i64 0, .slice none 0 0]) H rfl Try.zeroValue29 rfl ?_
  clear H
  intro b0_0 w0_0 H
  try dsimp only [replC, List.cons_append, List.nil_append, List.append_nil, agg, cellsL, Value.cells, List.toList_toArray, List.set_cons_zero, List.set_cons_succ, spliceL, List.take_succ_cons, List.take_zero, List.drop_succ_cons, List.drop_zero, List.length_cons, List.length_nil, Nat.reduceAdd, Row.cells, Flight.L] at H
  refine r_assign rfl ?_
  refine LW.nil ?_
  refine thenE_norm (h1 _ _ ?_); clear h1; try clear K1
  refine CW.seq (fun K2 h2 => ?_)
  refine CW.seq (fun K3 h3 => ?_)
  refine CW.region ?_
  refine r_move rfl ?_
  refine r_lss rfl rfl rfl ?_
  refine r_move rfl ?_
  refine' LW.grpOr (n := 5) (ts := [0, 1, 4]) (d := 13) (tj := 8) rfl (fun hg1_3 => ?_) (fun hg1_3 => ?_) (fun σ => ?_)
  rotate_left
  · simp only [List.take_succ_cons, List.take_zero]
    have hg1_3P := hg1_3
    try simp only [decide_eq_true_eq, decide_eq_false_iff_not, Bool.and_eq_true, Bool.or_eq_true, Bool.and_eq_false_iff, Bool.or_eq_false_iff, Bool.not_eq_true', Bool.not_eq_false', beq_iff_eq, bne_iff_ne] at hg1_3P
    refine LW.want rfl rfl hg1_3 ?_
    refine r_move rfl ?_
    refine LW.want rfl rfl hg1_3 ?_
    refine r_move rfl ?_
    refine LW.want rfl rfl hg1_3 ?_
    refine r_call rfl Try.call17 (by simp only [List.map_cons, List.map_nil, List.map_toArray, List.toList_toArray, upd_get, ev, Nat.reduceEqDiff, ↓reduceIte] <;> rfl) (LenZ_c _) ?_
    rintro _ _ ⟨rfl, rfl⟩
    refine ⟨_, rfl, ?_⟩
    refine LW.want rfl rfl hg1_3 ?_
    refine r_geq rfl rfl rfl ?_
    refine r_pickF rfl rfl hg1_3 ?_
    refine LW.nil (thenE_norm ⟨rfl, rfl, rfl⟩)
  · simp only [List.take_succ_cons, List.take_zero]
    refine LW.skip rfl (fun _ e => by cases e; decide) rfl hg1_3 ?_
    refine LW.skip rfl (fun _ e => by cases e; decide) rfl hg1_3 ?_
    refine LW.skip rfl (fun _ e => by cases e; decide) rfl hg1_3 ?_
    refine LW.skip rfl (fun _ e => by cases e; decide) rfl hg1_3 ?_
    refine r_pickT rfl rfl hg1_3 ?_
    refine LW.nil (thenE_norm ⟨rfl, rfl, rfl⟩)
  simp only [setL, keepE, upd_get, ev, Nat.reduceEqDiff, ↓reduceIte]; simp only [List.drop_succ_cons, List.drop_zero]
  refine LW.nil ?_
  refine thenE_norm (h3 _ _ ?_); clear h3; try clear K3
  refine CW.condT rfl (by first | rfl | (simp only [decide_eq_true_eq, decide_eq_false_iff_not, Bool.and_eq_true, Bool.or_eq_true, Bool.and_eq_false_iff, Bool.or_eq_false_iff, Bool.not_eq_true', Bool.not_eq_false', beq_iff_eq, bne_iff_ne]; omega) | simp_all) ?_
  refine CW.seq (fun K4 h4 => ?_)
  refine CW.region ?_
  refine r_buildQ rfl Try.underlying29 Try.zeroValue29 rfl (pl := [(0, 1), (1, 1), (2, 1), (3, 1)]) (by intro w; simp [go_sem]) (qs := []) (cs := [.int .i64 0, .int .i64 0, .int .i64 0, .slice none 0 0]) trivial rfl ?_
  refine s_storeA H Try.sizeOf29 rfl (by simp only [upd_get, ev, Nat.reduceEqDiff, ↓reduceIte] <;> rfl) (by simp only [cellsL, agg, List.toList_toArray, Row.cells, Flight.L] <;> rfl) (by rfl) (by first | rfl | exact Rs.oneC (by first | assumption | exact SH.rsR H (by repeat first | exact At.here | apply At.there) | exact SH.rsO H (by repeat first | exact At.here | apply At.there) | exact Rs.toH (by first | assumption | exact SH.rsR H (by repeat first | exact At.here | apply At.there) | exact SH.rsO H (by repeat first | exact At.here | apply At.there)) (by omega) | exact Rs.toL (by first | assumption | exact SH.rsR H (by repeat first | exact At.here | apply At.there) | exact SH.rsO H (by repeat first | exact At.here | apply At.there)) (by omega) | exact Rs.toLH (by first | assumption | exact SH.rsR H (by repeat first | exact At.here | apply At.there) | exact SH.rsO H (by repeat first | exact At.here | apply At.there)) (by omega) (by omega) | exact (Rs.nil : Rs Non _ _ _)) | (simp only [List.all_cons, List.all_nil, Bool.and_true, Bool.and_eq_true, Row.cells, Flight.L]; (repeat' constructor) <;> first | rfl | exact Rs.oneC (by first | assumption | exact SH.rsR H (by repeat first | exact At.here | apply At.there) | exact SH.rsO H (by repeat first | exact At.here | apply At.there) | exact Rs.toH (by first | assumption | exact SH.rsR H (by repeat first | exact At.here | apply At.there) | exact SH.rsO H (by repeat first | exact At.here | apply At.there)) (by omega) | exact Rs.toL (by first | assumption | exact SH.rsR H (by repeat first | exact At.here | apply At.there) | exact SH.rsO H (by repeat first | exact At.here | apply At.there)) (by omega) | exact Rs.toLH (by first | assumption | exact SH.rsR H (by repeat first | exact At.here | apply At.there) | exact SH.rsO H (by repeat first | exact At.here | apply At.there)) (by omega) (by omega) | exact (Rs.nil : Rs Non _ _ _)))) (by repeat first | exact At.here | apply At.there) (by first | (simp; done) | decide | (show _ ≤ _; decide)) ?_
  clear H
  intro w2_1 H
  try dsimp only [replC, List.cons_append, List.nil_append, List.append_nil, agg, cellsL, Value.cells, List.toList_toArray, List.set_cons_zero, List.set_cons_succ, spliceL, List.take_succ_cons, List.take_zero, List.drop_succ_cons, List.drop_zero, List.length_cons, List.length_nil, Nat.reduceAdd, Row.cells, Flight.L] at H
  refine r_assign rfl ?_
  refine LW.nil ?_
  refine thenE_norm (h4 _ _ ?_); clear h4; try clear K4
  refine CW.ret (thenE_ret (retC2 Try.results16 (by simp only [upd_get, ev, Nat.reduceEqDiff, ↓reduceIte] <;> rfl) (by simp only [upd_get, ev, Nat.reduceEqDiff, ↓reduceIte] <;> rfl) Try.isAgg29 Try.sizeOf29 (by exact SH.cells H (by repeat first | exact At.here | apply At.there)) (by rfl) ?_))
  exact ⟨rfl, H.ext⟩

theorem take_small {ms : List Fl} (n k : Nat) (h : small ms) : small (ms.take n ++ ms.drop k) := fun m hm => by
  rcases List.mem_append.1 hm with hm | hm
  · exact h m (List.mem_of_mem_take hm)
  · exact h m (List.mem_of_mem_drop hm)
/-- A net behind a flight that is taken. -/
def netCut (ms : List Fl) (i : Int) : List Fl := if 0 ≤ i ∧ i < ms.length then ms.take i.toNat ++ ms.drop (i.toNat + 1) else ms
set_option maxHeartbeats 1000000 in
theorem Take_c {p : Nat} {ms : List Fl} {lost : Int} {FN : Nat → Prop} (i : Int) (w : World) (hN : NetA p ms lost FN w) :
    Calls Try.prog 14 #[.pointer (some ⟨p, 0, none⟩), .int .i64 i] w fun e w' => ∃ v g FN', e = .returned (.tuple #[agg (⟨(netAt ms i).1.src, (netAt ms i).1.dst, (netAt ms i).1.born, v⟩ : Flight), .bool (netAt ms i).2]) ∧
      SH FN Non w w' [.P FN' (NetA p (netCut ms i) lost FN'), .O 5 v (netAt ms i).1.bytes g] := by
  have hN' := hN
  obtain ⟨hsm, v, raws, g, F, hA⟩ := hN
  have H := SH.obj (G := Any) hA
  have hls : FlsA F raws ms w := SH.prop H (i := 2) rfl
  have hl : raws.length = ms.length := All2.len hls
  refine calls_of_CW Try.func14 rfl Try.ntmps14 (Nat.le_of_ble_eq_true rfl) ?_
  simp only [argE, argFrom, Nat.reduceAdd]
  refine CW.seq (fun K1 h1 => ?_)
  refine CW.region ?_
  refine s_alloc (cs := [.int .i64 0, .int .i64 0, .int .i64 0, .slice none 0 0]) H rfl Try.zeroValue29 rfl ?_
  clear H
  intro b0_0 w0_0 H
  try dsimp only [replC, List.cons_append, List.nil_append, List.append_nil, agg, cellsL, Value.cells, List.toList_toArray, List.set_cons_zero, List.set_cons_succ, spliceL, List.take_succ_cons, List.take_zero, List.drop_succ_cons, List.drop_zero, List.length_cons, List.length_nil, Nat.reduceAdd, Row.cells, Flight.L] at H
  refine r_assign rfl ?_
  refine LW.nil ?_
  refine thenE_norm (h1 _ _ ?_); clear h1; try clear K1
  refine CW.seq (fun K2 h2 => ?_)
  refine CW.region ?_
  refine r_move rfl ?_
  refine r_move rfl ?_
  refine r_call rfl Try.call16 (by simp only [List.map_cons, List.map_nil, List.map_toArray, List.toList_toArray, upd_get, ev, Nat.reduceEqDiff, ↓reduceIte] <;> rfl) (Look_c i _ (by exact ⟨hsm, v, raws, g, F, SH.objA (SH.sel H [0, 1, 2] (by decide) rfl)⟩)) ?_
  rintro _ w1_2 ⟨v1_2, g1_2, rfl, K⟩
  refine ⟨_, rfl, ?_⟩
  replace H := SH.call H K
  clear K
  try dsimp only [replC, List.cons_append, List.nil_append, List.append_nil, agg, cellsL, Value.cells, List.toList_toArray, List.set_cons_zero, List.set_cons_succ, spliceL, List.take_succ_cons, List.take_zero, List.drop_succ_cons, List.drop_zero, List.length_cons, List.length_nil, Nat.reduceAdd, Row.cells, Flight.L] at H
  refine r_move rfl ?_
  refine r_extract rfl (by simp only [upd_get, ev, Nat.reduceEqDiff, ↓reduceIte] <;> rfl) (by simp only [List.getElem?_toArray, List.getElem?_cons_zero, List.getElem?_cons_succ] <;> rfl) ?_
  refine r_extract rfl (by simp only [upd_get, ev, Nat.reduceEqDiff, ↓reduceIte] <;> rfl) (by simp only [List.getElem?_toArray, List.getElem?_cons_zero, List.getElem?_cons_succ] <;> rfl) ?_
  refine s_alloc (cs := [.int .i64 0, .int .i64 0, .int .i64 0, .slice none 0 0]) H rfl Try.zeroValue29 rfl ?_
  clear H
  intro b1_6 w1_6 H
  try dsimp only [replC, List.cons_append, List.nil_append, List.append_nil, agg, cellsL, Value.cells, List.toList_toArray, List.set_cons_zero, List.set_cons_succ, spliceL, List.take_succ_cons, List.take_zero, List.drop_succ_cons, List.drop_zero, List.length_cons, List.length_nil, Nat.reduceAdd, Row.cells, Flight.L] at H
  refine s_storeA H Try.sizeOf29 rfl (by simp only [upd_get, ev, Nat.reduceEqDiff, ↓reduceIte] <;> rfl) (by simp only [cellsL, agg, List.toList_toArray, Row.cells, Flight.L] <;> rfl) (by rfl) (by first | rfl | exact Rs.oneC (by first | assumption | exact SH.rsR H (by repeat first | exact At.here | apply At.there) | exact SH.rsO H (by repeat first | exact At.here | apply At.there) | exact Rs.toH (by first | assumption | exact SH.rsR H (by repeat first | exact At.here | apply At.there) | exact SH.rsO H (by repeat first | exact At.here | apply At.there)) (by omega) | exact Rs.toL (by first | assumption | exact SH.rsR H (by repeat first | exact At.here | apply At.there) | exact SH.rsO H (by repeat first | exact At.here | apply At.there)) (by omega) | exact Rs.toLH (by first | assumption | exact SH.rsR H (by repeat first | exact At.here | apply At.there) | exact SH.rsO H (by repeat first | exact At.here | apply At.there)) (by omega) (by omega) | exact (Rs.nil : Rs Non _ _ _)) | (simp only [List.all_cons, List.all_nil, Bool.and_true, Bool.and_eq_true, Row.cells, Flight.L]; (repeat' constructor) <;> first | rfl | exact Rs.oneC (by first | assumption | exact SH.rsR H (by repeat first | exact At.here | apply At.there) | exact SH.rsO H (by repeat first | exact At.here | apply At.there) | exact Rs.toH (by first | assumption | exact SH.rsR H (by repeat first | exact At.here | apply At.there) | exact SH.rsO H (by repeat first | exact At.here | apply At.there)) (by omega) | exact Rs.toL (by first | assumption | exact SH.rsR H (by repeat first | exact At.here | apply At.there) | exact SH.rsO H (by repeat first | exact At.here | apply At.there)) (by omega) | exact Rs.toLH (by first | assumption | exact SH.rsR H (by repeat first | exact At.here | apply At.there) | exact SH.rsO H (by repeat first | exact At.here | apply At.there)) (by omega) (by omega) | exact (Rs.nil : Rs Non _ _ _)))) (by repeat first | exact At.here | apply At.there) (by first | (simp; done) | decide | (show _ ≤ _; decide)) ?_
  clear H
  intro w1_7 H
  try dsimp only [replC, List.cons_append, List.nil_append, List.append_nil, agg, cellsL, Value.cells, List.toList_toArray, List.set_cons_zero, List.set_cons_succ, spliceL, List.take_succ_cons, List.take_zero, List.drop_succ_cons, List.drop_zero, List.length_cons, List.length_nil, Nat.reduceAdd, Row.cells, Flight.L] at H
  refine r_assign rfl ?_
  refine LW.nil ?_
  refine thenE_norm ?_
  refine cut (K := K2) [0, 1, 4, 6, 7] (fun σ => ?_)
  simp only [setL, keepE, upd_get, ev, Nat.reduceEqDiff, ↓reduceIte]
  refine h2 _ _ ?_; clear h2; try clear K2
  refine CW.seq (fun K3 h3 => ?_)
  refine CW.seq (fun K4 h4 => ?_)
  refine CW.region ?_
  refine r_move rfl ?_
  refine LW.nil ?_
  refine thenE_norm (h4 _ _ ?_); clear h4; try clear K4
  refine CW.cond rfl (fun hc1 => ?_) (fun hc1 => ?_)
  · try simp only [decide_eq_true_eq, decide_eq_false_iff_not, Bool.and_eq_true, Bool.or_eq_true, Bool.and_eq_false_iff, Bool.or_eq_false_iff, Bool.not_eq_true', Bool.not_eq_false', beq_iff_eq, bne_iff_ne, ne_eq, Decidable.not_not] at hc1
    have hin : 0 ≤ i ∧ i < ms.length := by
      by_cases h : 0 ≤ i ∧ i < ms.length
      · exact h
      · rw [netAt, if_neg h] at hc1; cases hc1
    obtain ⟨n, rfl⟩ : ∃ n : Nat, i = n := ⟨i.toNat, by omega⟩
    have h63 := (SH.rsO H (i := 1) rfl).len63
    refine CW.region ?_
    refine r_move rfl ?_
    refine r_move rfl ?_
    refine r_nilCheck rfl rfl ?_
    refine r_fieldAddrO rfl Try.underlying71 rfl Try.sizeOf40 (by decide) (show _ = 0 from rfl) rfl ?_
    refine r_load rfl Try.isAgg40 rfl (by first | exact SH.cellB H (by repeat first | exact At.here | apply At.there) (by rfl) | exact SH.cellI H (by repeat first | exact At.here | apply At.there) (by rfl) | exact Rs.cell (by first | assumption | exact SH.rsR H (by repeat first | exact At.here | apply At.there) | exact SH.rsO H (by repeat first | exact At.here | apply At.there) | exact Rs.toH (by first | assumption | exact SH.rsR H (by repeat first | exact At.here | apply At.there) | exact SH.rsO H (by repeat first | exact At.here | apply At.there)) (by omega) | exact Rs.toL (by first | assumption | exact SH.rsR H (by repeat first | exact At.here | apply At.there) | exact SH.rsO H (by repeat first | exact At.here | apply At.there)) (by omega) | exact Rs.toLH (by first | assumption | exact SH.rsR H (by repeat first | exact At.here | apply At.there) | exact SH.rsO H (by repeat first | exact At.here | apply At.there)) (by omega) (by omega) | exact (Rs.nil : Rs Non _ _ _)) (by assumption) (by rfl) | exact Rs.cell0 (by first | assumption | exact SH.rsR H (by repeat first | exact At.here | apply At.there) | exact SH.rsO H (by repeat first | exact At.here | apply At.there) | exact Rs.toH (by first | assumption | exact SH.rsR H (by repeat first | exact At.here | apply At.there) | exact SH.rsO H (by repeat first | exact At.here | apply At.there)) (by omega) | exact Rs.toL (by first | assumption | exact SH.rsR H (by repeat first | exact At.here | apply At.there) | exact SH.rsO H (by repeat first | exact At.here | apply At.there)) (by omega) | exact Rs.toLH (by first | assumption | exact SH.rsR H (by repeat first | exact At.here | apply At.there) | exact SH.rsO H (by repeat first | exact At.here | apply At.there)) (by omega) (by omega) | exact (Rs.nil : Rs Non _ _ _)) (by assumption) (by rfl) | assumption) ?_
    refine r_move rfl ?_
    refine r_move rfl ?_
    refine r_add rfl rfl rfl (wr_i64 (by omega) (by omega)) ?_
    refine r_call rfl Try.call42 (by simp only [List.map_cons, List.map_nil, List.map_toArray, List.toList_toArray, upd_get, ev, Nat.reduceEqDiff, ↓reduceIte] <;> rfl) (DelF_c n (n + 1) _ (SH.ow H (i := 1) rfl) (by omega) (by omega)) ?_
    rintro _ w3_8 ⟨v3_8, rfl, K⟩
    refine ⟨_, rfl, ?_⟩
    replace H := SH.updO H (i := 1) rfl K
    clear K
    try dsimp only [replC, List.cons_append, List.nil_append, List.append_nil, agg, cellsL, Value.cells, List.toList_toArray, List.set_cons_zero, List.set_cons_succ, spliceL, List.take_succ_cons, List.take_zero, List.drop_succ_cons, List.drop_zero, List.length_cons, List.length_nil, Nat.reduceAdd, Row.cells, Flight.L] at H
    refine r_nilCheck rfl rfl ?_
    refine r_fieldAddrO rfl Try.underlying71 rfl Try.sizeOf40 (by decide) (show _ = 0 from rfl) rfl ?_
    refine s_store H Try.sizeOf40 rfl (by simp only [upd_get, ev, Nat.reduceEqDiff, ↓reduceIte] <;> rfl) (by first | rfl | exact Rs.oneC (by first | assumption | exact SH.rsR H (by repeat first | exact At.here | apply At.there) | exact SH.rsO H (by repeat first | exact At.here | apply At.there) | exact Rs.toH (by first | assumption | exact SH.rsR H (by repeat first | exact At.here | apply At.there) | exact SH.rsO H (by repeat first | exact At.here | apply At.there)) (by omega) | exact Rs.toL (by first | assumption | exact SH.rsR H (by repeat first | exact At.here | apply At.there) | exact SH.rsO H (by repeat first | exact At.here | apply At.there)) (by omega) | exact Rs.toLH (by first | assumption | exact SH.rsR H (by repeat first | exact At.here | apply At.there) | exact SH.rsO H (by repeat first | exact At.here | apply At.there)) (by omega) (by omega) | exact (Rs.nil : Rs Non _ _ _)) | (simp only [List.all_cons, List.all_nil, Bool.and_true, Bool.and_eq_true, Row.cells, Flight.L]; (repeat' constructor) <;> first | rfl | exact Rs.oneC (by first | assumption | exact SH.rsR H (by repeat first | exact At.here | apply At.there) | exact SH.rsO H (by repeat first | exact At.here | apply At.there) | exact Rs.toH (by first | assumption | exact SH.rsR H (by repeat first | exact At.here | apply At.there) | exact SH.rsO H (by repeat first | exact At.here | apply At.there)) (by omega) | exact Rs.toL (by first | assumption | exact SH.rsR H (by repeat first | exact At.here | apply At.there) | exact SH.rsO H (by repeat first | exact At.here | apply At.there)) (by omega) | exact Rs.toLH (by first | assumption | exact SH.rsR H (by repeat first | exact At.here | apply At.there) | exact SH.rsO H (by repeat first | exact At.here | apply At.there)) (by omega) (by omega) | exact (Rs.nil : Rs Non _ _ _)))) (by repeat first | exact At.here | apply At.there) (by first | (simp; done) | decide | omega) ?_
    clear H
    intro w3_11 H
    try dsimp only [replC, List.cons_append, List.nil_append, List.append_nil, agg, cellsL, Value.cells, List.toList_toArray, List.set_cons_zero, List.set_cons_succ, spliceL, List.take_succ_cons, List.take_zero, List.drop_succ_cons, List.drop_zero, List.length_cons, List.length_nil, Nat.reduceAdd, Row.cells, Flight.L] at H
    refine LW.nil ?_
    refine thenE_norm ?_
    refine cut (K := K3) [4, 6, 7] (fun σ => ?_)
    simp only [setL, keepE, upd_get, ev, Nat.reduceEqDiff, ↓reduceIte]
    refine h3 _ _ ?_; clear h3; try clear K3
    refine CW.seq (fun K5 h5 => ?_)
    refine CW.region ?_
    refine r_loadA rfl Try.isAgg29 Try.sizeOf29 rfl (by first | exact SH.cells H (by repeat first | exact At.here | apply At.there) | exact Rs.cells0 (by first | assumption | exact SH.rsR H (by repeat first | exact At.here | apply At.there) | exact SH.rsO H (by repeat first | exact At.here | apply At.there) | exact Rs.toH (by first | assumption | exact SH.rsR H (by repeat first | exact At.here | apply At.there) | exact SH.rsO H (by repeat first | exact At.here | apply At.there)) (by omega) | exact Rs.toL (by first | assumption | exact SH.rsR H (by repeat first | exact At.here | apply At.there) | exact SH.rsO H (by repeat first | exact At.here | apply At.there)) (by omega) | exact Rs.toLH (by first | assumption | exact SH.rsR H (by repeat first | exact At.here | apply At.there) | exact SH.rsO H (by repeat first | exact At.here | apply At.there)) (by omega) (by omega) | exact (Rs.nil : Rs Non _ _ _)) (by assumption)) (by rfl) ?_
    refine r_move rfl ?_
    refine s_storeA H Try.sizeOf29 rfl (by simp only [upd_get, ev, Nat.reduceEqDiff, ↓reduceIte] <;> rfl) (by simp only [cellsL, agg, List.toList_toArray, Row.cells, Flight.L] <;> rfl) (by rfl) (by first | rfl | exact Rs.oneC (by first | assumption | exact SH.rsR H (by repeat first | exact At.here | apply At.there) | exact SH.rsO H (by repeat first | exact At.here | apply At.there) | exact Rs.toH (by first | assumption | exact SH.rsR H (by repeat first | exact At.here | apply At.there) | exact SH.rsO H (by repeat first | exact At.here | apply At.there)) (by omega) | exact Rs.toL (by first | assumption | exact SH.rsR H (by repeat first | exact At.here | apply At.there) | exact SH.rsO H (by repeat first | exact At.here | apply At.there)) (by omega) | exact Rs.toLH (by first | assumption | exact SH.rsR H (by repeat first | exact At.here | apply At.there) | exact SH.rsO H (by repeat first | exact At.here | apply At.there)) (by omega) (by omega) | exact (Rs.nil : Rs Non _ _ _)) | (simp only [List.all_cons, List.all_nil, Bool.and_true, Bool.and_eq_true, Row.cells, Flight.L]; (repeat' constructor) <;> first | rfl | exact Rs.oneC (by first | assumption | exact SH.rsR H (by repeat first | exact At.here | apply At.there) | exact SH.rsO H (by repeat first | exact At.here | apply At.there) | exact Rs.toH (by first | assumption | exact SH.rsR H (by repeat first | exact At.here | apply At.there) | exact SH.rsO H (by repeat first | exact At.here | apply At.there)) (by omega) | exact Rs.toL (by first | assumption | exact SH.rsR H (by repeat first | exact At.here | apply At.there) | exact SH.rsO H (by repeat first | exact At.here | apply At.there)) (by omega) | exact Rs.toLH (by first | assumption | exact SH.rsR H (by repeat first | exact At.here | apply At.there) | exact SH.rsO H (by repeat first | exact At.here | apply At.there)) (by omega) (by omega) | exact (Rs.nil : Rs Non _ _ _)))) (by repeat first | exact At.here | apply At.there) (by first | (simp; done) | decide | (show _ ≤ _; decide)) ?_
    clear H
    intro w4_2 H
    try dsimp only [replC, List.cons_append, List.nil_append, List.append_nil, agg, cellsL, Value.cells, List.toList_toArray, List.set_cons_zero, List.set_cons_succ, spliceL, List.take_succ_cons, List.take_zero, List.drop_succ_cons, List.drop_zero, List.length_cons, List.length_nil, Nat.reduceAdd, Row.cells, Flight.L] at H
    refine r_assign rfl ?_
    refine LW.nil ?_
    refine thenE_norm (h5 _ _ ?_); clear h5; try clear K5
    refine CW.ret (retC2 Try.results14 (by simp only [upd_get, ev, Nat.reduceEqDiff, ↓reduceIte] <;> rfl) (by simp only [upd_get, ev, Nat.reduceEqDiff, ↓reduceIte] <;> rfl) Try.isAgg29 Try.sizeOf29 (by exact SH.cells H (by repeat first | exact At.here | apply At.there)) (by rfl) ?_)
    have H2 := SH.cast (d := .P F (FlsA F (raws.take n ++ raws.drop (n + 1)) (ms.take n ++ ms.drop (n + 1)))) H (i := 2) rfl (fun _ => trivial) (fun b hb => hb) fls_st (fun h => (All2.take n h).app (All2.drop (n + 1) h))
    obtain ⟨FN', K⟩ := NetA.mkL (lost := lost) (take_small n (n + 1) hsm) (SH.sel H2 [0, 1, 2, 4] (by decide) rfl)
    rw [netCut, if_pos hin]
    exact ⟨_, _, _, rfl, SH.give K (List.Sublist.refl _) ⟨trivial, trivial, trivial⟩⟩
  · try simp only [decide_eq_true_eq, decide_eq_false_iff_not, Bool.and_eq_true, Bool.or_eq_true, Bool.and_eq_false_iff, Bool.or_eq_false_iff, Bool.not_eq_true', Bool.not_eq_false', beq_iff_eq, bne_iff_ne, ne_eq, Decidable.not_not] at hc1
    refine CW.skip ?_
    refine thenE_norm (h3 _ _ ?_); clear h3; try clear K3
    refine CW.seq (fun K6 h6 => ?_)
    refine CW.region ?_
    refine r_loadA rfl Try.isAgg29 Try.sizeOf29 rfl (by first | exact SH.cells H (by repeat first | exact At.here | apply At.there) | exact Rs.cells0 (by first | assumption | exact SH.rsR H (by repeat first | exact At.here | apply At.there) | exact SH.rsO H (by repeat first | exact At.here | apply At.there) | exact Rs.toH (by first | assumption | exact SH.rsR H (by repeat first | exact At.here | apply At.there) | exact SH.rsO H (by repeat first | exact At.here | apply At.there)) (by omega) | exact Rs.toL (by first | assumption | exact SH.rsR H (by repeat first | exact At.here | apply At.there) | exact SH.rsO H (by repeat first | exact At.here | apply At.there)) (by omega) | exact Rs.toLH (by first | assumption | exact SH.rsR H (by repeat first | exact At.here | apply At.there) | exact SH.rsO H (by repeat first | exact At.here | apply At.there)) (by omega) (by omega) | exact (Rs.nil : Rs Non _ _ _)) (by assumption)) (by rfl) ?_
    refine r_move rfl ?_
    refine s_storeA H Try.sizeOf29 rfl (by simp only [upd_get, ev, Nat.reduceEqDiff, ↓reduceIte] <;> rfl) (by simp only [cellsL, agg, List.toList_toArray, Row.cells, Flight.L] <;> rfl) (by rfl) (by first | rfl | exact Rs.oneC (by first | assumption | exact SH.rsR H (by repeat first | exact At.here | apply At.there) | exact SH.rsO H (by repeat first | exact At.here | apply At.there) | exact Rs.toH (by first | assumption | exact SH.rsR H (by repeat first | exact At.here | apply At.there) | exact SH.rsO H (by repeat first | exact At.here | apply At.there)) (by omega) | exact Rs.toL (by first | assumption | exact SH.rsR H (by repeat first | exact At.here | apply At.there) | exact SH.rsO H (by repeat first | exact At.here | apply At.there)) (by omega) | exact Rs.toLH (by first | assumption | exact SH.rsR H (by repeat first | exact At.here | apply At.there) | exact SH.rsO H (by repeat first | exact At.here | apply At.there)) (by omega) (by omega) | exact (Rs.nil : Rs Non _ _ _)) | (simp only [List.all_cons, List.all_nil, Bool.and_true, Bool.and_eq_true, Row.cells, Flight.L]; (repeat' constructor) <;> first | rfl | exact Rs.oneC (by first | assumption | exact SH.rsR H (by repeat first | exact At.here | apply At.there) | exact SH.rsO H (by repeat first | exact At.here | apply At.there) | exact Rs.toH (by first | assumption | exact SH.rsR H (by repeat first | exact At.here | apply At.there) | exact SH.rsO H (by repeat first | exact At.here | apply At.there)) (by omega) | exact Rs.toL (by first | assumption | exact SH.rsR H (by repeat first | exact At.here | apply At.there) | exact SH.rsO H (by repeat first | exact At.here | apply At.there)) (by omega) | exact Rs.toLH (by first | assumption | exact SH.rsR H (by repeat first | exact At.here | apply At.there) | exact SH.rsO H (by repeat first | exact At.here | apply At.there)) (by omega) (by omega) | exact (Rs.nil : Rs Non _ _ _)))) (by repeat first | exact At.here | apply At.there) (by first | (simp; done) | decide | (show _ ≤ _; decide)) ?_
    clear H
    intro w4_2 H
    try dsimp only [replC, List.cons_append, List.nil_append, List.append_nil, agg, cellsL, Value.cells, List.toList_toArray, List.set_cons_zero, List.set_cons_succ, spliceL, List.take_succ_cons, List.take_zero, List.drop_succ_cons, List.drop_zero, List.length_cons, List.length_nil, Nat.reduceAdd, Row.cells, Flight.L] at H
    refine r_assign rfl ?_
    refine LW.nil ?_
    refine thenE_norm (h6 _ _ ?_); clear h6; try clear K6
    refine CW.ret (retC2 Try.results14 (by simp only [upd_get, ev, Nat.reduceEqDiff, ↓reduceIte] <;> rfl) (by simp only [upd_get, ev, Nat.reduceEqDiff, ↓reduceIte] <;> rfl) Try.isAgg29 Try.sizeOf29 (by exact SH.cells H (by repeat first | exact At.here | apply At.there)) (by rfl) ?_)
    have hno : ¬ (0 ≤ i ∧ i < ms.length) := by
      intro h
      rw [netAt, if_pos h] at hc1; cases hc1
    obtain ⟨FN', K⟩ := NetA.mkL (lost := lost) hsm (SH.sel H [0, 1, 2, 4] (by decide) rfl)
    rw [netCut, if_neg hno]
    exact ⟨_, _, _, rfl, SH.give K (List.Sublist.refl _) ⟨trivial, trivial, trivial⟩⟩
theorem TakeZ_c (i : Int) (w : World) : Calls Try.prog 14 #[.pointer none, .int .i64 i] w fun e w' => e = .returned (.tuple #[agg (⟨0, 0, 0, .slice none 0 0⟩ : Flight), .bool false]) ∧ Ext0 w w' := by
  have H := SH.start (U := Non) (G := Any) w
  refine calls_of_CW Try.func14 rfl Try.ntmps14 (Nat.le_of_ble_eq_true rfl) ?_
  simp only [argE, argFrom, Nat.reduceAdd]
  refine CW.seq (fun K1 h1 => ?_)
  refine CW.region ?_
  refine s_alloc (cs := [.int .i64 0, .int .i64 0, .int .i64 0, .slice none 0 0]) H rfl Try.zeroValue29 rfl ?_
  clear H
  intro b0_0 w0_0 H
  try dsimp only [replC, List.cons_append, List.nil_append, List.append_nil, agg, cellsL, Value.cells, List.toList_toArray, List.set_cons_zero, List.set_cons_succ, spliceL, List.take_succ_cons, List.take_zero, List.drop_succ_cons, List.drop_zero, List.length_cons, List.length_nil, Nat.reduceAdd, Row.cells, Flight.L] at H
  refine r_assign rfl ?_
  refine LW.nil ?_
  refine thenE_norm (h1 _ _ ?_); clear h1; try clear K1
  refine CW.seq (fun K2 h2 => ?_)
  refine CW.region ?_
  refine r_move rfl ?_
  refine r_move rfl ?_
  refine r_call rfl Try.call16 (by simp only [List.map_cons, List.map_nil, List.map_toArray, List.toList_toArray, upd_get, ev, Nat.reduceEqDiff, ↓reduceIte] <;> rfl) (LookZ_c i _) ?_
  rintro _ w1_2 ⟨rfl, X⟩
  refine ⟨_, rfl, ?_⟩
  replace H := SH.same H X
  clear X
  refine r_move rfl ?_
  refine r_extract rfl (by simp only [upd_get, ev, Nat.reduceEqDiff, ↓reduceIte] <;> rfl) (by simp only [List.getElem?_toArray, List.getElem?_cons_zero, List.getElem?_cons_succ] <;> rfl) ?_
  refine r_extract rfl (by simp only [upd_get, ev, Nat.reduceEqDiff, ↓reduceIte] <;> rfl) (by simp only [List.getElem?_toArray, List.getElem?_cons_zero, List.getElem?_cons_succ] <;> rfl) ?_
  refine s_alloc (cs := [.int .i64 0, .int .i64 0, .int .i64 0, .slice none 0 0]) H rfl Try.zeroValue29 rfl ?_
  clear H
  intro b1_6 w1_6 H
  try dsimp only [replC, List.cons_append, List.nil_append, List.append_nil, agg, cellsL, Value.cells, List.toList_toArray, List.set_cons_zero, List.set_cons_succ, spliceL, List.take_succ_cons, List.take_zero, List.drop_succ_cons, List.drop_zero, List.length_cons, List.length_nil, Nat.reduceAdd, Row.cells, Flight.L] at H
  refine s_storeA H Try.sizeOf29 rfl (by simp only [upd_get, ev, Nat.reduceEqDiff, ↓reduceIte] <;> rfl) (by simp only [cellsL, agg, List.toList_toArray, Row.cells, Flight.L] <;> rfl) (by rfl) (by first | rfl | exact Rs.oneC (by first | assumption | exact SH.rsR H (by repeat first | exact At.here | apply At.there) | exact SH.rsO H (by repeat first | exact At.here | apply At.there) | exact Rs.toH (by first | assumption | exact SH.rsR H (by repeat first | exact At.here | apply At.there) | exact SH.rsO H (by repeat first | exact At.here | apply At.there)) (by omega) | exact Rs.toL (by first | assumption | exact SH.rsR H (by repeat first | exact At.here | apply At.there) | exact SH.rsO H (by repeat first | exact At.here | apply At.there)) (by omega) | exact Rs.toLH (by first | assumption | exact SH.rsR H (by repeat first | exact At.here | apply At.there) | exact SH.rsO H (by repeat first | exact At.here | apply At.there)) (by omega) (by omega) | exact (Rs.nil : Rs Non _ _ _)) | (simp only [List.all_cons, List.all_nil, Bool.and_true, Bool.and_eq_true, Row.cells, Flight.L]; (repeat' constructor) <;> first | rfl | exact Rs.oneC (by first | assumption | exact SH.rsR H (by repeat first | exact At.here | apply At.there) | exact SH.rsO H (by repeat first | exact At.here | apply At.there) | exact Rs.toH (by first | assumption | exact SH.rsR H (by repeat first | exact At.here | apply At.there) | exact SH.rsO H (by repeat first | exact At.here | apply At.there)) (by omega) | exact Rs.toL (by first | assumption | exact SH.rsR H (by repeat first | exact At.here | apply At.there) | exact SH.rsO H (by repeat first | exact At.here | apply At.there)) (by omega) | exact Rs.toLH (by first | assumption | exact SH.rsR H (by repeat first | exact At.here | apply At.there) | exact SH.rsO H (by repeat first | exact At.here | apply At.there)) (by omega) (by omega) | exact (Rs.nil : Rs Non _ _ _)))) (by repeat first | exact At.here | apply At.there) (by first | (simp; done) | decide | (show _ ≤ _; decide)) ?_
  clear H
  intro w1_7 H
  try dsimp only [replC, List.cons_append, List.nil_append, List.append_nil, agg, cellsL, Value.cells, List.toList_toArray, List.set_cons_zero, List.set_cons_succ, spliceL, List.take_succ_cons, List.take_zero, List.drop_succ_cons, List.drop_zero, List.length_cons, List.length_nil, Nat.reduceAdd, Row.cells, Flight.L] at H
  refine r_assign rfl ?_
  refine LW.nil ?_
  refine thenE_norm ?_
  refine cut (K := K2) [0, 1, 4, 6, 7] (fun σ => ?_)
  simp only [setL, keepE, upd_get, ev, Nat.reduceEqDiff, ↓reduceIte]
  refine h2 _ _ ?_; clear h2; try clear K2
  refine CW.seq (fun K3 h3 => ?_)
  refine CW.seq (fun K4 h4 => ?_)
  refine CW.region ?_
  refine r_move rfl ?_
  refine LW.nil ?_
  refine thenE_norm (h4 _ _ ?_); clear h4; try clear K4
  refine CW.condF rfl (by first | rfl | (simp only [decide_eq_true_eq, decide_eq_false_iff_not, Bool.and_eq_true, Bool.or_eq_true, Bool.and_eq_false_iff, Bool.or_eq_false_iff, Bool.not_eq_true', Bool.not_eq_false', beq_iff_eq, bne_iff_ne]; omega) | simp_all) ?_
  refine CW.skip ?_
  refine thenE_norm (h3 _ _ ?_); clear h3; try clear K3
  refine CW.seq (fun K5 h5 => ?_)
  refine CW.region ?_
  refine r_loadA rfl Try.isAgg29 Try.sizeOf29 rfl (by first | exact SH.cells H (by repeat first | exact At.here | apply At.there) | exact Rs.cells0 (by first | assumption | exact SH.rsR H (by repeat first | exact At.here | apply At.there) | exact SH.rsO H (by repeat first | exact At.here | apply At.there) | exact Rs.toH (by first | assumption | exact SH.rsR H (by repeat first | exact At.here | apply At.there) | exact SH.rsO H (by repeat first | exact At.here | apply At.there)) (by omega) | exact Rs.toL (by first | assumption | exact SH.rsR H (by repeat first | exact At.here | apply At.there) | exact SH.rsO H (by repeat first | exact At.here | apply At.there)) (by omega) | exact Rs.toLH (by first | assumption | exact SH.rsR H (by repeat first | exact At.here | apply At.there) | exact SH.rsO H (by repeat first | exact At.here | apply At.there)) (by omega) (by omega) | exact (Rs.nil : Rs Non _ _ _)) (by assumption)) (by rfl) ?_
  refine r_move rfl ?_
  refine s_storeA H Try.sizeOf29 rfl (by simp only [upd_get, ev, Nat.reduceEqDiff, ↓reduceIte] <;> rfl) (by simp only [cellsL, agg, List.toList_toArray, Row.cells, Flight.L] <;> rfl) (by rfl) (by first | rfl | exact Rs.oneC (by first | assumption | exact SH.rsR H (by repeat first | exact At.here | apply At.there) | exact SH.rsO H (by repeat first | exact At.here | apply At.there) | exact Rs.toH (by first | assumption | exact SH.rsR H (by repeat first | exact At.here | apply At.there) | exact SH.rsO H (by repeat first | exact At.here | apply At.there)) (by omega) | exact Rs.toL (by first | assumption | exact SH.rsR H (by repeat first | exact At.here | apply At.there) | exact SH.rsO H (by repeat first | exact At.here | apply At.there)) (by omega) | exact Rs.toLH (by first | assumption | exact SH.rsR H (by repeat first | exact At.here | apply At.there) | exact SH.rsO H (by repeat first | exact At.here | apply At.there)) (by omega) (by omega) | exact (Rs.nil : Rs Non _ _ _)) | (simp only [List.all_cons, List.all_nil, Bool.and_true, Bool.and_eq_true, Row.cells, Flight.L]; (repeat' constructor) <;> first | rfl | exact Rs.oneC (by first | assumption | exact SH.rsR H (by repeat first | exact At.here | apply At.there) | exact SH.rsO H (by repeat first | exact At.here | apply At.there) | exact Rs.toH (by first | assumption | exact SH.rsR H (by repeat first | exact At.here | apply At.there) | exact SH.rsO H (by repeat first | exact At.here | apply At.there)) (by omega) | exact Rs.toL (by first | assumption | exact SH.rsR H (by repeat first | exact At.here | apply At.there) | exact SH.rsO H (by repeat first | exact At.here | apply At.there)) (by omega) | exact Rs.toLH (by first | assumption | exact SH.rsR H (by repeat first | exact At.here | apply At.there) | exact SH.rsO H (by repeat first | exact At.here | apply At.there)) (by omega) (by omega) | exact (Rs.nil : Rs Non _ _ _)))) (by repeat first | exact At.here | apply At.there) (by first | (simp; done) | decide | (show _ ≤ _; decide)) ?_
  clear H
  intro w4_2 H
  try dsimp only [replC, List.cons_append, List.nil_append, List.append_nil, agg, cellsL, Value.cells, List.toList_toArray, List.set_cons_zero, List.set_cons_succ, spliceL, List.take_succ_cons, List.take_zero, List.drop_succ_cons, List.drop_zero, List.length_cons, List.length_nil, Nat.reduceAdd, Row.cells, Flight.L] at H
  refine r_assign rfl ?_
  refine LW.nil ?_
  refine thenE_norm (h5 _ _ ?_); clear h5; try clear K5
  refine CW.ret (retC2 Try.results14 (by simp only [upd_get, ev, Nat.reduceEqDiff, ↓reduceIte] <;> rfl) (by simp only [upd_get, ev, Nat.reduceEqDiff, ↓reduceIte] <;> rfl) Try.isAgg29 Try.sizeOf29 (by exact SH.cells H (by repeat first | exact At.here | apply At.there)) (by rfl) ?_)
  exact ⟨rfl, H.ext⟩

/-- A net behind one more like a flight. -/
def netTwice (ms : List Fl) (lost : Int) (i : Int) : List Fl × Int × Int := if (netAt ms i).2 = true then netPut ms lost (netAt ms i).1 else (ms, lost, 6)
theorem Twice_c {p : Nat} {ms : List Fl} {lost : Int} {FN : Nat → Prop} (i : Int) (w : World) (hN : NetA p ms lost FN w) (hl0 : 0 ≤ lost) (hl1 : lost < 1000000) :
    Calls Try.prog 19 #[.pointer (some ⟨p, 0, none⟩), .int .i64 i] w fun e w' => ∃ FN', e = .returned (.int .i64 (netTwice ms lost i).2.2) ∧ SH FN Non w w' [.P FN' (NetA p (netTwice ms lost i).1 (netTwice ms lost i).2.1 FN')] := by
  have H := SH.objP (G := Any) hN net_st (fun w h => NetA.lt h)
  refine calls_of_CW Try.func19 rfl Try.ntmps19 (Nat.le_of_ble_eq_true rfl) ?_
  simp only [argE, argFrom, Nat.reduceAdd]
  refine CW.seq (fun K1 h1 => ?_)
  refine CW.region ?_
  refine r_assign rfl ?_
  refine LW.nil ?_
  refine thenE_norm (h1 _ _ ?_); clear h1; try clear K1
  refine CW.seq (fun K2 h2 => ?_)
  refine CW.region ?_
  refine r_move rfl ?_
  refine r_move rfl ?_
  refine r_call rfl Try.call16 (by simp only [List.map_cons, List.map_nil, List.map_toArray, List.toList_toArray, upd_get, ev, Nat.reduceEqDiff, ↓reduceIte] <;> rfl) (Look_c _ _ (SH.prop H (by repeat first | exact At.here | apply At.there))) ?_
  rintro _ w1_2 ⟨v1_2, g1_2, rfl, K⟩
  refine ⟨_, rfl, ?_⟩
  replace H := SH.call H K
  clear K
  try dsimp only [replC, List.cons_append, List.nil_append, List.append_nil, agg, cellsL, Value.cells, List.toList_toArray, List.set_cons_zero, List.set_cons_succ, spliceL, List.take_succ_cons, List.take_zero, List.drop_succ_cons, List.drop_zero, List.length_cons, List.length_nil, Nat.reduceAdd, Row.cells, Flight.L] at H
  refine r_move rfl ?_
  refine r_extract rfl (by simp only [upd_get, ev, Nat.reduceEqDiff, ↓reduceIte] <;> rfl) (by simp only [List.getElem?_toArray, List.getElem?_cons_zero, List.getElem?_cons_succ] <;> rfl) ?_
  refine r_extract rfl (by simp only [upd_get, ev, Nat.reduceEqDiff, ↓reduceIte] <;> rfl) (by simp only [List.getElem?_toArray, List.getElem?_cons_zero, List.getElem?_cons_succ] <;> rfl) ?_
  refine s_alloc (cs := [.int .i64 0, .int .i64 0, .int .i64 0, .slice none 0 0]) H rfl Try.zeroValue29 rfl ?_
  clear H
  intro b1_6 w1_6 H
  try dsimp only [replC, List.cons_append, List.nil_append, List.append_nil, agg, cellsL, Value.cells, List.toList_toArray, List.set_cons_zero, List.set_cons_succ, spliceL, List.take_succ_cons, List.take_zero, List.drop_succ_cons, List.drop_zero, List.length_cons, List.length_nil, Nat.reduceAdd, Row.cells, Flight.L] at H
  refine s_storeA H Try.sizeOf29 rfl (by simp only [upd_get, ev, Nat.reduceEqDiff, ↓reduceIte] <;> rfl) (by simp only [cellsL, agg, List.toList_toArray, Row.cells, Flight.L] <;> rfl) (by rfl) (by first | rfl | exact Rs.oneC (by first | assumption | exact SH.rsR H (by repeat first | exact At.here | apply At.there) | exact SH.rsO H (by repeat first | exact At.here | apply At.there) | exact Rs.toH (by first | assumption | exact SH.rsR H (by repeat first | exact At.here | apply At.there) | exact SH.rsO H (by repeat first | exact At.here | apply At.there)) (by omega) | exact Rs.toL (by first | assumption | exact SH.rsR H (by repeat first | exact At.here | apply At.there) | exact SH.rsO H (by repeat first | exact At.here | apply At.there)) (by omega) | exact Rs.toLH (by first | assumption | exact SH.rsR H (by repeat first | exact At.here | apply At.there) | exact SH.rsO H (by repeat first | exact At.here | apply At.there)) (by omega) (by omega) | exact (Rs.nil : Rs Non _ _ _)) | (simp only [List.all_cons, List.all_nil, Bool.and_true, Bool.and_eq_true, Row.cells, Flight.L]; (repeat' constructor) <;> first | rfl | exact Rs.oneC (by first | assumption | exact SH.rsR H (by repeat first | exact At.here | apply At.there) | exact SH.rsO H (by repeat first | exact At.here | apply At.there) | exact Rs.toH (by first | assumption | exact SH.rsR H (by repeat first | exact At.here | apply At.there) | exact SH.rsO H (by repeat first | exact At.here | apply At.there)) (by omega) | exact Rs.toL (by first | assumption | exact SH.rsR H (by repeat first | exact At.here | apply At.there) | exact SH.rsO H (by repeat first | exact At.here | apply At.there)) (by omega) | exact Rs.toLH (by first | assumption | exact SH.rsR H (by repeat first | exact At.here | apply At.there) | exact SH.rsO H (by repeat first | exact At.here | apply At.there)) (by omega) (by omega) | exact (Rs.nil : Rs Non _ _ _)))) (by repeat first | exact At.here | apply At.there) (by first | (simp; done) | decide | (show _ ≤ _; decide)) ?_
  clear H
  intro w1_7 H
  try dsimp only [replC, List.cons_append, List.nil_append, List.append_nil, agg, cellsL, Value.cells, List.toList_toArray, List.set_cons_zero, List.set_cons_succ, spliceL, List.take_succ_cons, List.take_zero, List.drop_succ_cons, List.drop_zero, List.length_cons, List.length_nil, Nat.reduceAdd, Row.cells, Flight.L] at H
  refine r_assign rfl ?_
  refine LW.nil ?_
  refine thenE_norm ?_
  refine cut (K := K2) [0, 5, 6] (fun σ => ?_)
  simp only [setL, keepE, upd_get, ev, Nat.reduceEqDiff, ↓reduceIte]
  refine h2 _ _ ?_; clear h2; try clear K2
  refine CW.seq (fun K3 h3 => ?_)
  refine CW.seq (fun K4 h4 => ?_)
  refine CW.region ?_
  refine r_move rfl ?_
  refine r_not rfl rfl ?_
  refine LW.nil ?_
  refine thenE_norm (h4 _ _ ?_); clear h4; try clear K4
  refine CW.cond rfl (fun hc1 => ?_) (fun hc1 => ?_)
  · try simp only [decide_eq_true_eq, decide_eq_false_iff_not, Bool.and_eq_true, Bool.or_eq_true, Bool.and_eq_false_iff, Bool.or_eq_false_iff, Bool.not_eq_true', Bool.not_eq_false', beq_iff_eq, bne_iff_ne, ne_eq, Decidable.not_not] at hc1
    refine CW.seq (fun K5 h5 => ?_)
    refine CW.region ?_
    refine r_assign rfl ?_
    refine LW.nil ?_
    refine thenE_norm (h5 _ _ ?_); clear h5; try clear K5
    refine CW.ret (thenE_ret (ret1 Try.results19 (by simp only [upd_get, ev, Nat.reduceEqDiff, ↓reduceIte]; rfl) ?_))
    rw [netTwice, if_neg (by simpa using hc1)]
    exact ⟨_, rfl, (SH.give (SH.sel H [0] (by decide) rfl) (List.Sublist.refl _) (by repeat first | exact trivial | refine ⟨trivial, ?_⟩))⟩
  · try simp only [decide_eq_true_eq, decide_eq_false_iff_not, Bool.and_eq_true, Bool.or_eq_true, Bool.and_eq_false_iff, Bool.or_eq_false_iff, Bool.not_eq_true', Bool.not_eq_false', beq_iff_eq, bne_iff_ne, ne_eq, Decidable.not_not] at hc1
    refine CW.skip ?_
    refine thenE_norm (h3 _ _ ?_); clear h3; try clear K3
    refine CW.seq (fun K6 h6 => ?_)
    refine CW.region ?_
    refine r_move rfl ?_
    refine r_loadA rfl Try.isAgg29 Try.sizeOf29 rfl (by first | exact SH.cells H (by repeat first | exact At.here | apply At.there) | exact Rs.cells0 (by first | assumption | exact SH.rsR H (by repeat first | exact At.here | apply At.there) | exact SH.rsO H (by repeat first | exact At.here | apply At.there) | exact Rs.toH (by first | assumption | exact SH.rsR H (by repeat first | exact At.here | apply At.there) | exact SH.rsO H (by repeat first | exact At.here | apply At.there)) (by omega) | exact Rs.toL (by first | assumption | exact SH.rsR H (by repeat first | exact At.here | apply At.there) | exact SH.rsO H (by repeat first | exact At.here | apply At.there)) (by omega) | exact Rs.toLH (by first | assumption | exact SH.rsR H (by repeat first | exact At.here | apply At.there) | exact SH.rsO H (by repeat first | exact At.here | apply At.there)) (by omega) (by omega) | exact (Rs.nil : Rs Non _ _ _)) (by assumption)) (by rfl) ?_
    refine r_call rfl Try.call13 (by simp only [List.map_cons, List.map_nil, List.map_toArray, List.toList_toArray, upd_get, ev, Nat.reduceEqDiff, ↓reduceIte] <;> rfl) (Put_c ⟨_, _, _, _⟩ _ (SH.prop H (i := 0) rfl) (SH.rsO H (i := 1) rfl) (fun b h1 h2 => (SH.val H).apart (i := 0) (j := 1) rfl rfl (by decide) (.inl trivial) b h2 h1) hl0 hl1) ?_
    rintro _ w4_2 ⟨FN4_2, rfl, K⟩
    refine ⟨_, rfl, ?_⟩
    replace H := SH.updP H (i := 0) rfl K
    clear K
    try dsimp only [replC, List.cons_append, List.nil_append, List.append_nil, agg, cellsL, Value.cells, List.toList_toArray, List.set_cons_zero, List.set_cons_succ, spliceL, List.take_succ_cons, List.take_zero, List.drop_succ_cons, List.drop_zero, List.length_cons, List.length_nil, Nat.reduceAdd, Row.cells, Flight.L] at H
    refine r_assign rfl ?_
    refine LW.nil ?_
    refine thenE_norm (h6 _ _ ?_); clear h6; try clear K6
    refine CW.ret (ret1 Try.results19 (by simp only [upd_get, ev, Nat.reduceEqDiff, ↓reduceIte]; rfl) ?_)
    rw [netTwice, if_pos (by simpa using hc1)]
    exact ⟨_, rfl, (SH.give (SH.sel H [0] (by decide) rfl) (List.Sublist.refl _) (by repeat first | exact trivial | refine ⟨trivial, ?_⟩))⟩
theorem TwiceZ_c (i : Int) (w : World) : Calls Try.prog 19 #[.pointer none, .int .i64 i] w fun e w' => e = .returned (.int .i64 6) ∧ Ext0 w w' := by
  have H := SH.start (U := Non) (G := Any) w
  refine calls_of_CW Try.func19 rfl Try.ntmps19 (Nat.le_of_ble_eq_true rfl) ?_
  simp only [argE, argFrom, Nat.reduceAdd]
  refine CW.seq (fun K1 h1 => ?_)
  refine CW.region ?_
  refine r_assign rfl ?_
  refine LW.nil ?_
  refine thenE_norm (h1 _ _ ?_); clear h1; try clear K1
  refine CW.seq (fun K2 h2 => ?_)
  refine CW.region ?_
  refine r_move rfl ?_
  refine r_move rfl ?_
  refine r_call rfl Try.call16 (by simp only [List.map_cons, List.map_nil, List.map_toArray, List.toList_toArray, upd_get, ev, Nat.reduceEqDiff, ↓reduceIte] <;> rfl) (LookZ_c i _) ?_
  rintro _ w1_2 ⟨rfl, X⟩
  refine ⟨_, rfl, ?_⟩
  replace H := SH.same H X
  clear X
  refine r_move rfl ?_
  refine r_extract rfl (by simp only [upd_get, ev, Nat.reduceEqDiff, ↓reduceIte] <;> rfl) (by simp only [List.getElem?_toArray, List.getElem?_cons_zero, List.getElem?_cons_succ] <;> rfl) ?_
  refine r_extract rfl (by simp only [upd_get, ev, Nat.reduceEqDiff, ↓reduceIte] <;> rfl) (by simp only [List.getElem?_toArray, List.getElem?_cons_zero, List.getElem?_cons_succ] <;> rfl) ?_
  refine s_alloc (cs := [.int .i64 0, .int .i64 0, .int .i64 0, .slice none 0 0]) H rfl Try.zeroValue29 rfl ?_
  clear H
  intro b1_6 w1_6 H
  try dsimp only [replC, List.cons_append, List.nil_append, List.append_nil, agg, cellsL, Value.cells, List.toList_toArray, List.set_cons_zero, List.set_cons_succ, spliceL, List.take_succ_cons, List.take_zero, List.drop_succ_cons, List.drop_zero, List.length_cons, List.length_nil, Nat.reduceAdd, Row.cells, Flight.L] at H
  refine s_storeA H Try.sizeOf29 rfl (by simp only [upd_get, ev, Nat.reduceEqDiff, ↓reduceIte] <;> rfl) (by simp only [cellsL, agg, List.toList_toArray, Row.cells, Flight.L] <;> rfl) (by rfl) (by first | rfl | exact Rs.oneC (by first | assumption | exact SH.rsR H (by repeat first | exact At.here | apply At.there) | exact SH.rsO H (by repeat first | exact At.here | apply At.there) | exact Rs.toH (by first | assumption | exact SH.rsR H (by repeat first | exact At.here | apply At.there) | exact SH.rsO H (by repeat first | exact At.here | apply At.there)) (by omega) | exact Rs.toL (by first | assumption | exact SH.rsR H (by repeat first | exact At.here | apply At.there) | exact SH.rsO H (by repeat first | exact At.here | apply At.there)) (by omega) | exact Rs.toLH (by first | assumption | exact SH.rsR H (by repeat first | exact At.here | apply At.there) | exact SH.rsO H (by repeat first | exact At.here | apply At.there)) (by omega) (by omega) | exact (Rs.nil : Rs Non _ _ _)) | (simp only [List.all_cons, List.all_nil, Bool.and_true, Bool.and_eq_true, Row.cells, Flight.L]; (repeat' constructor) <;> first | rfl | exact Rs.oneC (by first | assumption | exact SH.rsR H (by repeat first | exact At.here | apply At.there) | exact SH.rsO H (by repeat first | exact At.here | apply At.there) | exact Rs.toH (by first | assumption | exact SH.rsR H (by repeat first | exact At.here | apply At.there) | exact SH.rsO H (by repeat first | exact At.here | apply At.there)) (by omega) | exact Rs.toL (by first | assumption | exact SH.rsR H (by repeat first | exact At.here | apply At.there) | exact SH.rsO H (by repeat first | exact At.here | apply At.there)) (by omega) | exact Rs.toLH (by first | assumption | exact SH.rsR H (by repeat first | exact At.here | apply At.there) | exact SH.rsO H (by repeat first | exact At.here | apply At.there)) (by omega) (by omega) | exact (Rs.nil : Rs Non _ _ _)))) (by repeat first | exact At.here | apply At.there) (by first | (simp; done) | decide | (show _ ≤ _; decide)) ?_
  clear H
  intro w1_7 H
  try dsimp only [replC, List.cons_append, List.nil_append, List.append_nil, agg, cellsL, Value.cells, List.toList_toArray, List.set_cons_zero, List.set_cons_succ, spliceL, List.take_succ_cons, List.take_zero, List.drop_succ_cons, List.drop_zero, List.length_cons, List.length_nil, Nat.reduceAdd, Row.cells, Flight.L] at H
  refine r_assign rfl ?_
  refine LW.nil ?_
  refine thenE_norm ?_
  refine cut (K := K2) [0, 5, 6] (fun σ => ?_)
  simp only [setL, keepE, upd_get, ev, Nat.reduceEqDiff, ↓reduceIte]
  refine h2 _ _ ?_; clear h2; try clear K2
  refine CW.seq (fun K3 h3 => ?_)
  refine CW.seq (fun K4 h4 => ?_)
  refine CW.region ?_
  refine r_move rfl ?_
  refine r_not rfl rfl ?_
  refine LW.nil ?_
  refine thenE_norm (h4 _ _ ?_); clear h4; try clear K4
  refine CW.condT rfl (by first | rfl | (simp only [decide_eq_true_eq, decide_eq_false_iff_not, Bool.and_eq_true, Bool.or_eq_true, Bool.and_eq_false_iff, Bool.or_eq_false_iff, Bool.not_eq_true', Bool.not_eq_false', beq_iff_eq, bne_iff_ne]; omega) | simp_all) ?_
  refine CW.seq (fun K5 h5 => ?_)
  refine CW.region ?_
  refine r_assign rfl ?_
  refine LW.nil ?_
  refine thenE_norm (h5 _ _ ?_); clear h5; try clear K5
  refine CW.ret (thenE_ret (ret1 Try.results19 (by simp only [upd_get, ev, Nat.reduceEqDiff, ↓reduceIte]; rfl) ?_))
  exact ⟨rfl, H.ext⟩

def flSame (a b : Fl) : Bool := decide (a.src = b.src) && decide (a.dst = b.dst) && decide (a.born = b.born) && decide (a.bytes = b.bytes)
theorem Same_c {F G : Nat → Prop} (a b : Flight) {xs ys : List UInt8} (w : World) (ha : Rs F w a.bytes xs) (hb : Rs G w b.bytes ys) :
    Calls Try.prog 15 #[agg a, agg b] w fun e w' => e = .returned (.bool (flSame ⟨a.src, a.dst, a.born, xs⟩ ⟨b.src, b.dst, b.born, ys⟩)) ∧ Ext0 w w' := by
  have H := ((SH.start w).arg ha).arg hb
  refine calls_of_CW Try.func15 rfl Try.ntmps15 (Nat.le_of_ble_eq_true rfl) ?_
  simp only [argE, argFrom, Nat.reduceAdd]
  refine CW.seq (fun K1 h1 => ?_)
  refine CW.region ?_
  refine s_box H rfl (by simp only [upd_get, ev, Nat.reduceEqDiff, ↓reduceIte] <;> rfl) rfl ?_
  clear H
  intro b0_0 w0_0 H
  try dsimp only [replC, List.cons_append, List.nil_append, List.append_nil, agg, cellsL, Value.cells, List.toList_toArray, List.set_cons_zero, List.set_cons_succ, spliceL, List.take_succ_cons, List.take_zero, List.drop_succ_cons, List.drop_zero, List.length_cons, List.length_nil, Nat.reduceAdd, Row.cells, Flight.L] at H
  refine s_box H rfl (by simp only [upd_get, ev, Nat.reduceEqDiff, ↓reduceIte] <;> rfl) rfl ?_
  clear H
  intro b0_1 w0_1 H
  try dsimp only [replC, List.cons_append, List.nil_append, List.append_nil, agg, cellsL, Value.cells, List.toList_toArray, List.set_cons_zero, List.set_cons_succ, spliceL, List.take_succ_cons, List.take_zero, List.drop_succ_cons, List.drop_zero, List.length_cons, List.length_nil, Nat.reduceAdd, Row.cells, Flight.L] at H
  refine r_assign rfl ?_
  refine LW.nil ?_
  refine thenE_norm (h1 _ _ ?_); clear h1; try clear K1
  refine CW.seq (fun K2 h2 => ?_)
  refine CW.region ?_
  refine r_fieldAddrO rfl Try.underlying29 rfl Try.sizeOf3 (by decide) (show _ = 0 from rfl) rfl ?_
  refine r_load rfl Try.isAgg3 rfl (by first | exact SH.cellB H (by repeat first | exact At.here | apply At.there) (by rfl) | exact SH.cellI H (by repeat first | exact At.here | apply At.there) (by rfl) | exact Rs.cell (by first | assumption | exact SH.rsR H (by repeat first | exact At.here | apply At.there) | exact SH.rsO H (by repeat first | exact At.here | apply At.there) | exact Rs.toH (by first | assumption | exact SH.rsR H (by repeat first | exact At.here | apply At.there) | exact SH.rsO H (by repeat first | exact At.here | apply At.there)) (by omega) | exact Rs.toL (by first | assumption | exact SH.rsR H (by repeat first | exact At.here | apply At.there) | exact SH.rsO H (by repeat first | exact At.here | apply At.there)) (by omega) | exact Rs.toLH (by first | assumption | exact SH.rsR H (by repeat first | exact At.here | apply At.there) | exact SH.rsO H (by repeat first | exact At.here | apply At.there)) (by omega) (by omega) | exact (Rs.nil : Rs Non _ _ _)) (by assumption) (by rfl) | exact Rs.cell0 (by first | assumption | exact SH.rsR H (by repeat first | exact At.here | apply At.there) | exact SH.rsO H (by repeat first | exact At.here | apply At.there) | exact Rs.toH (by first | assumption | exact SH.rsR H (by repeat first | exact At.here | apply At.there) | exact SH.rsO H (by repeat first | exact At.here | apply At.there)) (by omega) | exact Rs.toL (by first | assumption | exact SH.rsR H (by repeat first | exact At.here | apply At.there) | exact SH.rsO H (by repeat first | exact At.here | apply At.there)) (by omega) | exact Rs.toLH (by first | assumption | exact SH.rsR H (by repeat first | exact At.here | apply At.there) | exact SH.rsO H (by repeat first | exact At.here | apply At.there)) (by omega) (by omega) | exact (Rs.nil : Rs Non _ _ _)) (by assumption) (by rfl) | assumption) ?_
  refine r_fieldAddrO rfl Try.underlying29 rfl Try.sizeOf3 (by decide) (show _ = 0 from rfl) rfl ?_
  refine r_load rfl Try.isAgg3 rfl (by first | exact SH.cellB H (by repeat first | exact At.here | apply At.there) (by rfl) | exact SH.cellI H (by repeat first | exact At.here | apply At.there) (by rfl) | exact Rs.cell (by first | assumption | exact SH.rsR H (by repeat first | exact At.here | apply At.there) | exact SH.rsO H (by repeat first | exact At.here | apply At.there) | exact Rs.toH (by first | assumption | exact SH.rsR H (by repeat first | exact At.here | apply At.there) | exact SH.rsO H (by repeat first | exact At.here | apply At.there)) (by omega) | exact Rs.toL (by first | assumption | exact SH.rsR H (by repeat first | exact At.here | apply At.there) | exact SH.rsO H (by repeat first | exact At.here | apply At.there)) (by omega) | exact Rs.toLH (by first | assumption | exact SH.rsR H (by repeat first | exact At.here | apply At.there) | exact SH.rsO H (by repeat first | exact At.here | apply At.there)) (by omega) (by omega) | exact (Rs.nil : Rs Non _ _ _)) (by assumption) (by rfl) | exact Rs.cell0 (by first | assumption | exact SH.rsR H (by repeat first | exact At.here | apply At.there) | exact SH.rsO H (by repeat first | exact At.here | apply At.there) | exact Rs.toH (by first | assumption | exact SH.rsR H (by repeat first | exact At.here | apply At.there) | exact SH.rsO H (by repeat first | exact At.here | apply At.there)) (by omega) | exact Rs.toL (by first | assumption | exact SH.rsR H (by repeat first | exact At.here | apply At.there) | exact SH.rsO H (by repeat first | exact At.here | apply At.there)) (by omega) | exact Rs.toLH (by first | assumption | exact SH.rsR H (by repeat first | exact At.here | apply At.there) | exact SH.rsO H (by repeat first | exact At.here | apply At.there)) (by omega) (by omega) | exact (Rs.nil : Rs Non _ _ _)) (by assumption) (by rfl) | assumption) ?_
  refine r_eql rfl rfl rfl ?_
  refine r_move rfl ?_
  refine' LW.grpAnd (n := 6) (ts := [2, 3, 17, 24]) (d := 16) (tj := 10) rfl (fun hg1_6 => ?_) (fun hg1_6 => ?_) (fun σ => ?_)
  rotate_left
  · simp only [List.take_succ_cons, List.take_zero]
    have hg1_6P := hg1_6
    try simp only [decide_eq_true_eq, decide_eq_false_iff_not, Bool.and_eq_true, Bool.or_eq_true, Bool.and_eq_false_iff, Bool.or_eq_false_iff, Bool.not_eq_true', Bool.not_eq_false', beq_iff_eq, bne_iff_ne] at hg1_6P
    refine LW.want rfl rfl hg1_6 ?_
    refine r_fieldAddrO rfl Try.underlying29 rfl Try.sizeOf3 (by decide) (show _ = 1 from rfl) rfl ?_
    refine LW.want rfl rfl hg1_6 ?_
    refine r_load rfl Try.isAgg3 rfl (by first | exact SH.cellB H (by repeat first | exact At.here | apply At.there) (by rfl) | exact SH.cellI H (by repeat first | exact At.here | apply At.there) (by rfl) | exact Rs.cell (by first | assumption | exact SH.rsR H (by repeat first | exact At.here | apply At.there) | exact SH.rsO H (by repeat first | exact At.here | apply At.there) | exact Rs.toH (by first | assumption | exact SH.rsR H (by repeat first | exact At.here | apply At.there) | exact SH.rsO H (by repeat first | exact At.here | apply At.there)) (by omega) | exact Rs.toL (by first | assumption | exact SH.rsR H (by repeat first | exact At.here | apply At.there) | exact SH.rsO H (by repeat first | exact At.here | apply At.there)) (by omega) | exact Rs.toLH (by first | assumption | exact SH.rsR H (by repeat first | exact At.here | apply At.there) | exact SH.rsO H (by repeat first | exact At.here | apply At.there)) (by omega) (by omega) | exact (Rs.nil : Rs Non _ _ _)) (by assumption) (by rfl) | exact Rs.cell0 (by first | assumption | exact SH.rsR H (by repeat first | exact At.here | apply At.there) | exact SH.rsO H (by repeat first | exact At.here | apply At.there) | exact Rs.toH (by first | assumption | exact SH.rsR H (by repeat first | exact At.here | apply At.there) | exact SH.rsO H (by repeat first | exact At.here | apply At.there)) (by omega) | exact Rs.toL (by first | assumption | exact SH.rsR H (by repeat first | exact At.here | apply At.there) | exact SH.rsO H (by repeat first | exact At.here | apply At.there)) (by omega) | exact Rs.toLH (by first | assumption | exact SH.rsR H (by repeat first | exact At.here | apply At.there) | exact SH.rsO H (by repeat first | exact At.here | apply At.there)) (by omega) (by omega) | exact (Rs.nil : Rs Non _ _ _)) (by assumption) (by rfl) | assumption) ?_
    refine LW.want rfl rfl hg1_6 ?_
    refine r_fieldAddrO rfl Try.underlying29 rfl Try.sizeOf3 (by decide) (show _ = 1 from rfl) rfl ?_
    refine LW.want rfl rfl hg1_6 ?_
    refine r_load rfl Try.isAgg3 rfl (by first | exact SH.cellB H (by repeat first | exact At.here | apply At.there) (by rfl) | exact SH.cellI H (by repeat first | exact At.here | apply At.there) (by rfl) | exact Rs.cell (by first | assumption | exact SH.rsR H (by repeat first | exact At.here | apply At.there) | exact SH.rsO H (by repeat first | exact At.here | apply At.there) | exact Rs.toH (by first | assumption | exact SH.rsR H (by repeat first | exact At.here | apply At.there) | exact SH.rsO H (by repeat first | exact At.here | apply At.there)) (by omega) | exact Rs.toL (by first | assumption | exact SH.rsR H (by repeat first | exact At.here | apply At.there) | exact SH.rsO H (by repeat first | exact At.here | apply At.there)) (by omega) | exact Rs.toLH (by first | assumption | exact SH.rsR H (by repeat first | exact At.here | apply At.there) | exact SH.rsO H (by repeat first | exact At.here | apply At.there)) (by omega) (by omega) | exact (Rs.nil : Rs Non _ _ _)) (by assumption) (by rfl) | exact Rs.cell0 (by first | assumption | exact SH.rsR H (by repeat first | exact At.here | apply At.there) | exact SH.rsO H (by repeat first | exact At.here | apply At.there) | exact Rs.toH (by first | assumption | exact SH.rsR H (by repeat first | exact At.here | apply At.there) | exact SH.rsO H (by repeat first | exact At.here | apply At.there)) (by omega) | exact Rs.toL (by first | assumption | exact SH.rsR H (by repeat first | exact At.here | apply At.there) | exact SH.rsO H (by repeat first | exact At.here | apply At.there)) (by omega) | exact Rs.toLH (by first | assumption | exact SH.rsR H (by repeat first | exact At.here | apply At.there) | exact SH.rsO H (by repeat first | exact At.here | apply At.there)) (by omega) (by omega) | exact (Rs.nil : Rs Non _ _ _)) (by assumption) (by rfl) | assumption) ?_
    refine LW.want rfl rfl hg1_6 ?_
    refine r_eql rfl rfl rfl ?_
    refine r_pickT rfl rfl hg1_6 ?_
    refine LW.nil (thenE_norm ⟨rfl, rfl, rfl⟩)
  · simp only [List.take_succ_cons, List.take_zero]
    refine LW.skip rfl (fun _ e => by cases e; decide) rfl hg1_6 ?_
    refine LW.skip rfl (fun _ e => by cases e; decide) rfl hg1_6 ?_
    refine LW.skip rfl (fun _ e => by cases e; decide) rfl hg1_6 ?_
    refine LW.skip rfl (fun _ e => by cases e; decide) rfl hg1_6 ?_
    refine LW.skip rfl (fun _ e => by cases e; decide) rfl hg1_6 ?_
    refine r_pickF rfl rfl hg1_6 ?_
    refine LW.nil (thenE_norm ⟨rfl, rfl, rfl⟩)
  simp only [setL, keepE, upd_get, ev, Nat.reduceEqDiff, ↓reduceIte]; simp only [List.drop_succ_cons, List.drop_zero]
  refine r_move rfl ?_
  refine' LW.grpAnd (n := 6) (ts := [2, 3, 24]) (d := 23) (tj := 17) rfl (fun hg1_13 => ?_) (fun hg1_13 => ?_) (fun σ => ?_)
  rotate_left
  · simp only [List.take_succ_cons, List.take_zero]
    have hg1_13P := hg1_13
    try simp only [decide_eq_true_eq, decide_eq_false_iff_not, Bool.and_eq_true, Bool.or_eq_true, Bool.and_eq_false_iff, Bool.or_eq_false_iff, Bool.not_eq_true', Bool.not_eq_false', beq_iff_eq, bne_iff_ne] at hg1_13P
    refine LW.want rfl rfl hg1_13 ?_
    refine r_fieldAddrO rfl Try.underlying29 rfl Try.sizeOf3 (by decide) (show _ = 2 from rfl) rfl ?_
    refine LW.want rfl rfl hg1_13 ?_
    refine r_load rfl Try.isAgg3 rfl (by first | exact SH.cellB H (by repeat first | exact At.here | apply At.there) (by rfl) | exact SH.cellI H (by repeat first | exact At.here | apply At.there) (by rfl) | exact Rs.cell (by first | assumption | exact SH.rsR H (by repeat first | exact At.here | apply At.there) | exact SH.rsO H (by repeat first | exact At.here | apply At.there) | exact Rs.toH (by first | assumption | exact SH.rsR H (by repeat first | exact At.here | apply At.there) | exact SH.rsO H (by repeat first | exact At.here | apply At.there)) (by omega) | exact Rs.toL (by first | assumption | exact SH.rsR H (by repeat first | exact At.here | apply At.there) | exact SH.rsO H (by repeat first | exact At.here | apply At.there)) (by omega) | exact Rs.toLH (by first | assumption | exact SH.rsR H (by repeat first | exact At.here | apply At.there) | exact SH.rsO H (by repeat first | exact At.here | apply At.there)) (by omega) (by omega) | exact (Rs.nil : Rs Non _ _ _)) (by assumption) (by rfl) | exact Rs.cell0 (by first | assumption | exact SH.rsR H (by repeat first | exact At.here | apply At.there) | exact SH.rsO H (by repeat first | exact At.here | apply At.there) | exact Rs.toH (by first | assumption | exact SH.rsR H (by repeat first | exact At.here | apply At.there) | exact SH.rsO H (by repeat first | exact At.here | apply At.there)) (by omega) | exact Rs.toL (by first | assumption | exact SH.rsR H (by repeat first | exact At.here | apply At.there) | exact SH.rsO H (by repeat first | exact At.here | apply At.there)) (by omega) | exact Rs.toLH (by first | assumption | exact SH.rsR H (by repeat first | exact At.here | apply At.there) | exact SH.rsO H (by repeat first | exact At.here | apply At.there)) (by omega) (by omega) | exact (Rs.nil : Rs Non _ _ _)) (by assumption) (by rfl) | assumption) ?_
    refine LW.want rfl rfl hg1_13 ?_
    refine r_fieldAddrO rfl Try.underlying29 rfl Try.sizeOf3 (by decide) (show _ = 2 from rfl) rfl ?_
    refine LW.want rfl rfl hg1_13 ?_
    refine r_load rfl Try.isAgg3 rfl (by first | exact SH.cellB H (by repeat first | exact At.here | apply At.there) (by rfl) | exact SH.cellI H (by repeat first | exact At.here | apply At.there) (by rfl) | exact Rs.cell (by first | assumption | exact SH.rsR H (by repeat first | exact At.here | apply At.there) | exact SH.rsO H (by repeat first | exact At.here | apply At.there) | exact Rs.toH (by first | assumption | exact SH.rsR H (by repeat first | exact At.here | apply At.there) | exact SH.rsO H (by repeat first | exact At.here | apply At.there)) (by omega) | exact Rs.toL (by first | assumption | exact SH.rsR H (by repeat first | exact At.here | apply At.there) | exact SH.rsO H (by repeat first | exact At.here | apply At.there)) (by omega) | exact Rs.toLH (by first | assumption | exact SH.rsR H (by repeat first | exact At.here | apply At.there) | exact SH.rsO H (by repeat first | exact At.here | apply At.there)) (by omega) (by omega) | exact (Rs.nil : Rs Non _ _ _)) (by assumption) (by rfl) | exact Rs.cell0 (by first | assumption | exact SH.rsR H (by repeat first | exact At.here | apply At.there) | exact SH.rsO H (by repeat first | exact At.here | apply At.there) | exact Rs.toH (by first | assumption | exact SH.rsR H (by repeat first | exact At.here | apply At.there) | exact SH.rsO H (by repeat first | exact At.here | apply At.there)) (by omega) | exact Rs.toL (by first | assumption | exact SH.rsR H (by repeat first | exact At.here | apply At.there) | exact SH.rsO H (by repeat first | exact At.here | apply At.there)) (by omega) | exact Rs.toLH (by first | assumption | exact SH.rsR H (by repeat first | exact At.here | apply At.there) | exact SH.rsO H (by repeat first | exact At.here | apply At.there)) (by omega) (by omega) | exact (Rs.nil : Rs Non _ _ _)) (by assumption) (by rfl) | assumption) ?_
    refine LW.want rfl rfl hg1_13 ?_
    refine r_eql rfl rfl rfl ?_
    refine r_pickT rfl rfl hg1_13 ?_
    refine LW.nil (thenE_norm ⟨rfl, rfl, rfl⟩)
  · simp only [List.take_succ_cons, List.take_zero]
    refine LW.skip rfl (fun _ e => by cases e; decide) rfl hg1_13 ?_
    refine LW.skip rfl (fun _ e => by cases e; decide) rfl hg1_13 ?_
    refine LW.skip rfl (fun _ e => by cases e; decide) rfl hg1_13 ?_
    refine LW.skip rfl (fun _ e => by cases e; decide) rfl hg1_13 ?_
    refine LW.skip rfl (fun _ e => by cases e; decide) rfl hg1_13 ?_
    refine r_pickF rfl rfl hg1_13 ?_
    refine LW.nil (thenE_norm ⟨rfl, rfl, rfl⟩)
  simp only [setL, keepE, upd_get, ev, Nat.reduceEqDiff, ↓reduceIte]; simp only [List.drop_succ_cons, List.drop_zero]
  refine r_move rfl ?_
  refine' LW.grpAnd (n := 8) (ts := []) (d := 32) (tj := 24) rfl (fun hg1_20 => ?_) (fun hg1_20 => ?_) (fun σ => ?_)
  rotate_left
  · simp only [List.take_succ_cons, List.take_zero]
    have hg1_20P := hg1_20
    try simp only [decide_eq_true_eq, decide_eq_false_iff_not, Bool.and_eq_true, Bool.or_eq_true, Bool.and_eq_false_iff, Bool.or_eq_false_iff, Bool.not_eq_true', Bool.not_eq_false', beq_iff_eq, bne_iff_ne] at hg1_20P
    refine LW.want rfl rfl hg1_20 ?_
    refine r_fieldAddrO rfl Try.underlying29 rfl Try.sizeOf22 (by decide) (show _ = 3 from rfl) rfl ?_
    refine LW.want rfl rfl hg1_20 ?_
    refine r_load rfl Try.isAgg22 rfl (by first | exact SH.cellB H (by repeat first | exact At.here | apply At.there) (by rfl) | exact SH.cellI H (by repeat first | exact At.here | apply At.there) (by rfl) | exact Rs.cell (by first | assumption | exact SH.rsR H (by repeat first | exact At.here | apply At.there) | exact SH.rsO H (by repeat first | exact At.here | apply At.there) | exact Rs.toH (by first | assumption | exact SH.rsR H (by repeat first | exact At.here | apply At.there) | exact SH.rsO H (by repeat first | exact At.here | apply At.there)) (by omega) | exact Rs.toL (by first | assumption | exact SH.rsR H (by repeat first | exact At.here | apply At.there) | exact SH.rsO H (by repeat first | exact At.here | apply At.there)) (by omega) | exact Rs.toLH (by first | assumption | exact SH.rsR H (by repeat first | exact At.here | apply At.there) | exact SH.rsO H (by repeat first | exact At.here | apply At.there)) (by omega) (by omega) | exact (Rs.nil : Rs Non _ _ _)) (by assumption) (by rfl) | exact Rs.cell0 (by first | assumption | exact SH.rsR H (by repeat first | exact At.here | apply At.there) | exact SH.rsO H (by repeat first | exact At.here | apply At.there) | exact Rs.toH (by first | assumption | exact SH.rsR H (by repeat first | exact At.here | apply At.there) | exact SH.rsO H (by repeat first | exact At.here | apply At.there)) (by omega) | exact Rs.toL (by first | assumption | exact SH.rsR H (by repeat first | exact At.here | apply At.there) | exact SH.rsO H (by repeat first | exact At.here | apply At.there)) (by omega) | exact Rs.toLH (by first | assumption | exact SH.rsR H (by repeat first | exact At.here | apply At.there) | exact SH.rsO H (by repeat first | exact At.here | apply At.there)) (by omega) (by omega) | exact (Rs.nil : Rs Non _ _ _)) (by assumption) (by rfl) | assumption) ?_
    refine LW.want rfl rfl hg1_20 ?_
    refine r_b2sV rfl Try.underlying22 Try.underlying5 Try.underlying9 (by simp only [upd_get, ev, Nat.reduceEqDiff, ↓reduceIte] <;> rfl) (by first | assumption | exact SH.rsR H (by repeat first | exact At.here | apply At.there) | exact SH.rsO H (by repeat first | exact At.here | apply At.there) | exact Rs.toH (by first | assumption | exact SH.rsR H (by repeat first | exact At.here | apply At.there) | exact SH.rsO H (by repeat first | exact At.here | apply At.there)) (by omega) | exact Rs.toL (by first | assumption | exact SH.rsR H (by repeat first | exact At.here | apply At.there) | exact SH.rsO H (by repeat first | exact At.here | apply At.there)) (by omega) | exact Rs.toLH (by first | assumption | exact SH.rsR H (by repeat first | exact At.here | apply At.there) | exact SH.rsO H (by repeat first | exact At.here | apply At.there)) (by omega) (by omega) | exact (Rs.nil : Rs Non _ _ _)) (fun _ => rfl) ?_
    refine LW.want rfl rfl hg1_20 ?_
    refine r_fieldAddrO rfl Try.underlying29 rfl Try.sizeOf22 (by decide) (show _ = 3 from rfl) rfl ?_
    refine LW.want rfl rfl hg1_20 ?_
    refine r_load rfl Try.isAgg22 rfl (by first | exact SH.cellB H (by repeat first | exact At.here | apply At.there) (by rfl) | exact SH.cellI H (by repeat first | exact At.here | apply At.there) (by rfl) | exact Rs.cell (by first | assumption | exact SH.rsR H (by repeat first | exact At.here | apply At.there) | exact SH.rsO H (by repeat first | exact At.here | apply At.there) | exact Rs.toH (by first | assumption | exact SH.rsR H (by repeat first | exact At.here | apply At.there) | exact SH.rsO H (by repeat first | exact At.here | apply At.there)) (by omega) | exact Rs.toL (by first | assumption | exact SH.rsR H (by repeat first | exact At.here | apply At.there) | exact SH.rsO H (by repeat first | exact At.here | apply At.there)) (by omega) | exact Rs.toLH (by first | assumption | exact SH.rsR H (by repeat first | exact At.here | apply At.there) | exact SH.rsO H (by repeat first | exact At.here | apply At.there)) (by omega) (by omega) | exact (Rs.nil : Rs Non _ _ _)) (by assumption) (by rfl) | exact Rs.cell0 (by first | assumption | exact SH.rsR H (by repeat first | exact At.here | apply At.there) | exact SH.rsO H (by repeat first | exact At.here | apply At.there) | exact Rs.toH (by first | assumption | exact SH.rsR H (by repeat first | exact At.here | apply At.there) | exact SH.rsO H (by repeat first | exact At.here | apply At.there)) (by omega) | exact Rs.toL (by first | assumption | exact SH.rsR H (by repeat first | exact At.here | apply At.there) | exact SH.rsO H (by repeat first | exact At.here | apply At.there)) (by omega) | exact Rs.toLH (by first | assumption | exact SH.rsR H (by repeat first | exact At.here | apply At.there) | exact SH.rsO H (by repeat first | exact At.here | apply At.there)) (by omega) (by omega) | exact (Rs.nil : Rs Non _ _ _)) (by assumption) (by rfl) | assumption) ?_
    refine LW.want rfl rfl hg1_20 ?_
    refine r_b2sV rfl Try.underlying22 Try.underlying5 Try.underlying9 (by simp only [upd_get, ev, Nat.reduceEqDiff, ↓reduceIte] <;> rfl) (by first | assumption | exact SH.rsR H (by repeat first | exact At.here | apply At.there) | exact SH.rsO H (by repeat first | exact At.here | apply At.there) | exact Rs.toH (by first | assumption | exact SH.rsR H (by repeat first | exact At.here | apply At.there) | exact SH.rsO H (by repeat first | exact At.here | apply At.there)) (by omega) | exact Rs.toL (by first | assumption | exact SH.rsR H (by repeat first | exact At.here | apply At.there) | exact SH.rsO H (by repeat first | exact At.here | apply At.there)) (by omega) | exact Rs.toLH (by first | assumption | exact SH.rsR H (by repeat first | exact At.here | apply At.there) | exact SH.rsO H (by repeat first | exact At.here | apply At.there)) (by omega) (by omega) | exact (Rs.nil : Rs Non _ _ _)) (fun _ => rfl) ?_
    refine LW.want rfl rfl hg1_20 ?_
    refine r_eqlS rfl rfl rfl ?_
    refine r_pickT rfl rfl hg1_20 ?_
    refine LW.nil (thenE_norm ⟨rfl, rfl, rfl⟩)
  · simp only [List.take_succ_cons, List.take_zero]
    refine LW.skip rfl (fun _ e => by cases e; decide) rfl hg1_20 ?_
    refine LW.skip rfl (fun _ e => by cases e; decide) rfl hg1_20 ?_
    refine LW.skip rfl (fun _ e => by cases e; decide) rfl hg1_20 ?_
    refine LW.skip rfl (fun _ e => by cases e; decide) rfl hg1_20 ?_
    refine LW.skip rfl (fun _ e => by cases e; decide) rfl hg1_20 ?_
    refine LW.skip rfl (fun _ e => by cases e; decide) rfl hg1_20 ?_
    refine LW.skip rfl (fun _ e => by cases e; decide) rfl hg1_20 ?_
    refine r_pickF rfl rfl hg1_20 ?_
    refine LW.nil (thenE_norm ⟨rfl, rfl, rfl⟩)
  simp only [setL, keepE, upd_get, ev, Nat.reduceEqDiff, ↓reduceIte]; simp only [List.drop_succ_cons, List.drop_zero]
  refine r_assign rfl ?_
  refine LW.nil ?_
  refine thenE_norm (h2 _ _ ?_); clear h2; try clear K2
  refine CW.ret (ret1 Try.results15 (by simp only [upd_get, ev, Nat.reduceEqDiff, ↓reduceIte]; rfl) ?_)
  rw [ba_inj]
  exact ⟨rfl, H.ext⟩
end Go.Proofs.Ytcmnhneigojpoaa
