/-
  The walks of the clocks: ticks pass; The product of 1 and a small number, in two words: the kernel evaluates. No statement of the claim stands here; The walks of the clocks: clocks are made; Clients that were asked for nothing: made, stepped, looked at. No statement of the claim stands here: the kernel evaluates; Clients that were asked for nothing; rows of things that own memory, one of them taken out and put back; A world in which nobody has asked anything; which hosts there are
-/
import Derived.Test.YtgmmbdmdimkfjaaGreatPI29
import Derived.Test.YtgmmbdmdimkfjaaGreatPI05
import Derived.Test.YtgmmbdmdimkfjaaGreatPI22
namespace Go.Proofs.YtgmmbdmdimkfjaaGreat
set_option linter.unusedSimpArgs false
set_option linter.unusedVariables false
set_option maxRecDepth 20000
open Go.V Go.RowKit Go.ChangeShapes Go.WideShapes
set_option maxHeartbeats 2000000 in
theorem ClockPass_c {p n : Nat} {F : Nat → Prop} (k : Int) (w : World) (h : ClockA p n F w) (hk0 : 0 ≤ k) (hk1 : k ≤ 8) : Calls Tryz.prog 150 #[.pointer (some ⟨p, 0, none⟩), .int .i64 k] w fun e w' => ∃ v x F', e = .returned (.tuple #[v, .int .i64 x]) ∧ SH F Non w w' [.P F' (ClockA p n F')] := by
  obtain ⟨v, raws, g, ref, worst, hl, hn, hrs, hA⟩ := h
  have H := SH.obj (G := Any) hA
  refine calls_of_CW Tryz.func150 rfl Tryz.ntmps150 (Nat.le_of_ble_eq_true rfl) ?_
  simp only [argE, argFrom, Nat.reduceAdd]
  refine CW.seq fun K1 h1 => zr ?_
  refine zg (zt iA iA) (zn h1 ?_); try clear h1
  refine CW.seq (fun K2 h2 => ?_)
  refine CW.seq fun K3 h3 => zr ?_
  refine zg iM ?_
  refine zg (zk (r_eqlP rfl Tryz.underlying93 rfl rfl)) (zn h3 ?_); try clear h3
  refine CW.condF rfl (by first | rfl | (simp only [zd]; omega) | simp_all) ?_
  refine CW.skip ?_
  refine thenE_norm (h2 _ _ ?_); clear h2; try clear K2
  refine CW.seq (fun K4 h4 => ?_)
  refine CW.seq fun K5 h5 => zr ?_
  refine zg (zt iM (zt ilt iM)) ?_
  refine' LW.grpOr (n := 3) (ts := [0, 1]) (d := 16) (tj := 13) rfl (fun hg3_3 => ?_) (fun hg3_3 => ?_) (fun σ => ?_)
  rotate_left
  · simp only [List.take_succ_cons, List.take_zero]
    have hg3_3P := hg3_3
    try simp only [zd] at hg3_3P
    refine LW.want rfl rfl hg3_3 ?_
    refine zg iM ?_
    refine LW.want rfl rfl hg3_3 ?_
    refine zg igt ?_
    refine zg (zk (r_pickF rfl rfl hg3_3)) ?_
    refine LW.nil (thenE_norm ⟨rfl, rfl, rfl⟩)
  · simp only [List.take_succ_cons, List.take_zero]
    refine LW.skip rfl (fun _ e => by cases e; decide) rfl hg3_3 ?_
    refine LW.skip rfl (fun _ e => by cases e; decide) rfl hg3_3 ?_
    refine zg (zk (r_pickT rfl rfl hg3_3)) ?_
    refine LW.nil (thenE_norm ⟨rfl, rfl, rfl⟩)
  simp only [setL, keepE, upd_get, ev, Nat.reduceEqDiff, ↓reduceIte]; simp only [List.drop_succ_cons, List.drop_zero]
  refine LW.nil ?_
  refine thenE_norm (h5 _ _ ?_); clear h5; try clear K5
  refine CW.cond rfl (fun hc2 => ?_) (fun hc2 => ?_)
  · try simp only [zb] at hc2
    refine CW.seq fun K6 h6 => zr ?_
    refine zg (zt iA iA) (zn h6 ?_); try clear h6
    refine CW.ret (tR (ret2 Tryz.results150 EV EV ?_))
    obtain ⟨F', K⟩ := ClockA.mkL (L := []) hl hn hrs H
    exact ⟨_, _, _, rfl, SH.give K (List.Sublist.refl _) ⟨trivial, trivial⟩⟩
  · try simp only [zb] at hc2
    refine CW.skip ?_
    refine thenE_norm (h4 _ _ ?_); clear h4; try clear K4
    refine CW.seq fun K7 h7 => zr ?_
    refine zg (zt iM (zt iK (zt (fA 0) (zt iL iVV)))) ?_
    refine s_make (0 : Int) H rfl Tryz.underlying38 Tryz.type3 rfl rfl rfl rfl rfl rfl rfl rfl (by omega) (by show (8 : Int) * _ ≤ _; omega) (by omega) ?_
    clear H
    intro b5_5 w5_5 H
    try dsimp only [replC, List.cons_append, List.nil_append, List.append_nil, agg, cellsL, Value.cells, List.toList_toArray, List.set_cons_zero, List.set_cons_succ, spliceL, List.take_succ_cons, List.take_zero, List.drop_succ_cons, List.drop_zero, List.length_cons, List.length_nil, Nat.reduceAdd, Row.cells, Flight.L, Hd.L] at H
    refine zg iA (zn h7 ?_); try clear h7
    refine CW.seq (fun K8 h8 => ?_)
    refine CW.seq (fun K9 h9 => ?_)
    generalize hvm : (Value.slice (some ⟨b5_5, 0, none⟩) ((raws.length : Int)).toNat ((raws.length : Int)).toNat) = vm at H ⊢
    refine CW.region ?_
    refine zg (zt iM (zt iK (zt (fA 0) (zt iL (zt iVV iM))))) (zc [0, 1, 6, 27, 28] h9 fun σ => zg zm ?_); try clear h9
    refine CW.block ?_
    refine CW.loopR [0, 1, 6, 27] [28] (fun m vs w' => ∃ (i : Nat) (hs : List Hd) (ms : List Int) (worst' : Int) (gm : Option Nat), vs = [.int .i64 i] ∧ i ≤ n ∧ m = n - i ∧ hs.length = n ∧ ms.length = n ∧ (∀ h ∈ hs, h.r ∈ cleanL) ∧ SH F Any w w' [.B p 190 [v, .int .i64 ref, .int .i64 worst'], .O 188 v hs g, .O 3 vm ms gm]) (n) ?_ ?_
    · exact ⟨0, raws, _, worst, _, rfl, by omega, by omega, hl, by simp [hl], hrs, H⟩
    try clear H
    rintro n1 vs1 wL1 σ ⟨i, hs, ms, worst', gm, rfl, hi, rfl, hhl, hml, hhr, H⟩
    refine zg zm ?_
    refine CW.seq fun K10 h10 => zr ?_
    refine zg ilt (zn h10 ?_); try clear h10
    refine CW.seq (fun K11 h11 => ?_)
    refine CW.cond rfl (fun hc3 => ?_) (fun hc3 => ?_)
    · try simp only [zb] at hc3
      refine CW.skip ?_
      refine thenE_norm (h11 _ _ ?_); clear h11; try clear K11
      refine CW.seq (fun K12 h12 => ?_)
      refine CW.block ?_
      refine CW.seq (fun K13 h13 => ?_)
      obtain ⟨x, hx⟩ := get_of_lt (show i < hs.length by omega)
      have hxr := hhr x (List.mem_of_getElem? hx)
      obtain ⟨y, hy⟩ := get_of_lt (show i < ms.length by omega)
      refine CW.region ?_
      refine zg (zt iM iA) (zn h13 ?_); try clear h13
      refine CW.seq fun K14 h14 => zr ?_
      refine zg (zt iM (zt iK (zt (fA 0) (zt iL (zt iM (zt iI iA)))))) (zc [0, 1, 6, 7, 8, 27, 28] h14 fun σ => zg zm ?_); try clear h14
      refine CW.seq fun K15 h15 => zr ?_
      refine zg (zt iM (zt iM (zt iM (zt iK (zt (fB 1) (zt iL iM)))))) ?_
      refine r_call rfl Tryz.call224 HS (Move_c _ (by assumption) (by omega) (by omega)) ?_
      rintro _ w10_7 ⟨m10_7, hm010_7, hm110_7, rfl, X⟩
      refine ⟨_, rfl, ?_⟩
      replace H := SH.same H X
      clear X
      refine zg iI ?_
      refine s_storeR (o := 0) (x1 := m10_7) H Tryz.sizeOf3 rfl EV (by first | rfl | assumption | exact Rs.oneC RS | (simp only [List.all_cons, List.all_nil, Bool.and_true, Bool.and_eq_true, Row.cells, Flight.L, Hd.L]; (repeat' constructor) <;> first | rfl | assumption | exact Rs.oneC RS)) AT hy (by rfl) (by rfl) (by rfl) (by first | rfl | assumption | exact Rs.oneC RS | (simp only [List.all_cons, List.all_nil, Bool.and_true, Bool.and_eq_true, Row.cells, Flight.L, Hd.L]; (repeat' constructor) <;> first | rfl | assumption | exact Rs.oneC RS)) ?_
      clear H
      intro w10_9 H
      try dsimp only [replC, List.cons_append, List.nil_append, List.append_nil, agg, cellsL, Value.cells, List.toList_toArray, List.set_cons_zero, List.set_cons_succ, spliceL, List.take_succ_cons, List.take_zero, List.drop_succ_cons, List.drop_zero, List.length_cons, List.length_nil, Nat.reduceAdd, Row.cells, Flight.L, Hd.L] at H
      refine LW.nil ?_
      refine thenE_norm ?_
      refine cut (K := K15) [0, 1, 6, 7, 8, 27, 28] (fun σ => ?_)
      refine zg zm ?_
      refine h15 _ _ ?_; clear h15; try clear K15
      refine CW.seq (fun K16 h16 => ?_)
      have hy2 : (ms.set i m10_7)[i]? = some m10_7 := List.getElem?_set_self (by omega)
      have hml2 : (ms.set i m10_7).length = n := by rw [List.length_set]; exact hml
      refine CW.drawH [11] H (List.Sublist.refl _) (by kernel_rfl) rfl ?_
      clear H
      intro w11d H
      refine DL.take (i := 0) [0, 1, 2, 3, 8, 9, 10, 11] rfl (by kernel_rfl) (by kernel_rfl) (by kernel_rfl) (by kernel_rfl) rfl rfl (fun u H => x_move ) H ?_
      refine DL.take (i := 1) [1, 2, 3, 8, 9, 10, 11] rfl (by kernel_rfl) (by kernel_rfl) (by kernel_rfl) (by kernel_rfl) rfl rfl (fun u H => x_nilCheck rfl) H ?_
      refine DL.take (i := 2) [2, 3, 8, 9, 10, 11] rfl (by kernel_rfl) (by kernel_rfl) (by kernel_rfl) (by kernel_rfl) rfl rfl (fun u H => x_fieldAddrO Tryz.underlying188 rfl Tryz.sizeOf3 (by decide) (show _ + 0 = _ from rfl) rfl) H ?_
      refine DL.take (i := 3) [3, 8, 9, 10, 11] rfl (by kernel_rfl) (by kernel_rfl) (by kernel_rfl) (by kernel_rfl) rfl rfl (fun u H => x_load Tryz.isAgg3 rfl (by first | exact Rs.cell RS (by assumption) (by rfl) | exact Rs.cell0 RS (by assumption) (by rfl) | assumption)) H ?_
      refine DL.take (i := 4) [4, 6, 7, 8, 9, 10, 11] rfl (by kernel_rfl) (by kernel_rfl) (by kernel_rfl) (by kernel_rfl) rfl rfl (fun u H => x_move ) H ?_
      refine DL.take (i := 5) [5, 6, 7, 8, 9, 10, 11] rfl (by kernel_rfl) (by kernel_rfl) (by kernel_rfl) (by kernel_rfl) rfl rfl (fun u H => x_move ) H ?_
      refine DL.take (i := 6) [6, 7, 8, 9, 10, 11] rfl (by kernel_rfl) (by kernel_rfl) (by kernel_rfl) (by kernel_rfl) rfl rfl (fun u H => x_indexAddrV Tryz.underlying38 EV rfl RS (by exact Tryz.sizeOf3) (by omega) (by omega)) H ?_
      refine DL.take (i := 7) [7, 8, 9, 10, 11] rfl (by kernel_rfl) (by kernel_rfl) (by kernel_rfl) (by kernel_rfl) rfl rfl (fun u H => x_load Tryz.isAgg3 rfl (by first | exact Rs.cell RS (by assumption) (by rfl) | exact Rs.cell0 RS (by assumption) (by rfl) | assumption)) H ?_
      refine DL.take (i := 8) [8, 9, 10, 11] rfl (by kernel_rfl) (by kernel_rfl) (by kernel_rfl) (by kernel_rfl) rfl rfl (fun u H => x_addw rfl rfl) H ?_
      refine DL.take (i := 9) [9, 10, 11] rfl (by kernel_rfl) (by kernel_rfl) (by kernel_rfl) (by kernel_rfl) rfl rfl (fun u H => x_nilCheck rfl) H ?_
      refine DL.take (i := 10) [10, 11] rfl (by kernel_rfl) (by kernel_rfl) (by kernel_rfl) (by kernel_rfl) rfl rfl (fun u H => x_fieldAddrO Tryz.underlying188 rfl Tryz.sizeOf3 (by decide) (show _ + 0 = _ from rfl) rfl) H ?_
      refine DL.one (i := 11) (by kernel_rfl) rfl rfl ?_
      refine s_storeR (o := 0) (x1 := ⟨IntKind.i64.wrap (x.now + m10_7), x.r⟩) H Tryz.sizeOf3 rfl EV (by first | rfl | assumption | exact Rs.oneC RS | (simp only [List.all_cons, List.all_nil, Bool.and_true, Bool.and_eq_true, Row.cells, Flight.L, Hd.L]; (repeat' constructor) <;> first | rfl | assumption | exact Rs.oneC RS)) AT hx (by rfl) (by rfl) (by rfl) (by first | rfl | assumption | exact Rs.oneC RS | (simp only [List.all_cons, List.all_nil, Bool.and_true, Bool.and_eq_true, Row.cells, Flight.L, Hd.L]; (repeat' constructor) <;> first | rfl | assumption | exact Rs.oneC RS)) ?_
      clear H
      intro w11_11 H
      try dsimp only [replC, List.cons_append, List.nil_append, List.append_nil, agg, cellsL, Value.cells, List.toList_toArray, List.set_cons_zero, List.set_cons_succ, spliceL, List.take_succ_cons, List.take_zero, List.drop_succ_cons, List.drop_zero, List.length_cons, List.length_nil, Nat.reduceAdd, Row.cells, Flight.L, Hd.L] at H
      refine LW.nil (thenE_norm ⟨fun h => Bool.noConfusion (show true = false from h), ?_⟩)
      refine DL.done (by kernel_rfl) ?_
      refine thenE_norm ?_
      refine cut (K := K16) [0, 1, 6, 7, 27, 28] (fun σ => ?_)
      refine zg zm ?_
      refine h16 _ _ ?_; clear h16; try clear K16
      refine CW.drawH [14] H (List.Sublist.refl _) (by kernel_rfl) rfl ?_
      clear H
      intro w12d H
      refine DL.take (i := 0) [0, 12, 13, 14] rfl (by kernel_rfl) (by kernel_rfl) (by kernel_rfl) (by kernel_rfl) rfl rfl (fun u H => x_move ) H ?_
      refine DL.take (i := 1) [1, 2, 3, 4, 11, 12, 13, 14] rfl (by kernel_rfl) (by kernel_rfl) (by kernel_rfl) (by kernel_rfl) rfl rfl (fun u H => x_move ) H ?_
      refine DL.take (i := 2) [2, 3, 4, 11, 12, 13, 14] rfl (by kernel_rfl) (by kernel_rfl) (by kernel_rfl) (by kernel_rfl) rfl rfl (fun u H => x_nilCheck rfl) H ?_
      refine DL.take (i := 3) [3, 4, 11, 12, 13, 14] rfl (by kernel_rfl) (by kernel_rfl) (by kernel_rfl) (by kernel_rfl) rfl rfl (fun u H => x_fieldAddrO Tryz.underlying190 rfl Tryz.sizeOf3 (by decide) (show _ = 2 from rfl) rfl) H ?_
      refine DL.take (i := 4) [4, 11, 12, 13, 14] rfl (by kernel_rfl) (by kernel_rfl) (by kernel_rfl) (by kernel_rfl) rfl rfl (fun u H => x_load Tryz.isAgg3 rfl (by first | exact SH.cellB H AT (by rfl) | exact SH.cellI H AT (by rfl) | assumption)) H ?_
      refine DL.take (i := 5) [5, 10, 11, 12, 13, 14] rfl (by kernel_rfl) (by kernel_rfl) (by kernel_rfl) (by kernel_rfl) rfl rfl (fun u H => x_move ) H ?_
      refine DL.take (i := 6) [6, 8, 9, 10, 11, 12, 13, 14] rfl (by kernel_rfl) (by kernel_rfl) (by kernel_rfl) (by kernel_rfl) rfl rfl (fun u H => x_move ) H ?_
      refine DL.take (i := 7) [7, 8, 9, 10, 11, 12, 13, 14] rfl (by kernel_rfl) (by kernel_rfl) (by kernel_rfl) (by kernel_rfl) rfl rfl (fun u H => x_move ) H ?_
      refine DL.take (i := 8) [8, 9, 10, 11, 12, 13, 14] rfl (by kernel_rfl) (by kernel_rfl) (by kernel_rfl) (by kernel_rfl) rfl rfl (fun u H => x_indexAddrV Tryz.underlying38 EV rfl RS (by exact Tryz.sizeOf3) (by omega) (by omega)) H ?_
      refine DL.take (i := 9) [9, 10, 11, 12, 13, 14] rfl (by kernel_rfl) (by kernel_rfl) (by kernel_rfl) (by kernel_rfl) rfl rfl (fun u H => x_load Tryz.isAgg3 rfl (by first | exact Rs.cell RS (by assumption) (by rfl) | exact Rs.cell0 RS (by assumption) (by rfl) | assumption)) H ?_
      refine DL.one (i := 10) (by kernel_rfl) rfl rfl ?_
      refine r_call rfl Tryz.call225 HS (least_c _ _ _ (by omega) (by omega) (by omega) (by omega)) ?_
      rintro _ w12_10 ⟨x12_10, rfl, rfl⟩
      refine ⟨_, rfl, ?_⟩
      refine LW.nil (thenE_norm ⟨fun _ => (SH.sub H SB), ?_⟩)
      refine DL.take (i := 11) [11, 12, 13, 14] rfl (by kernel_rfl) (by kernel_rfl) (by kernel_rfl) (by kernel_rfl) rfl rfl (fun u H => x_max EV EV) (SH.sub H SB) ?_
      refine DL.take (i := 12) [12, 13, 14] rfl (by kernel_rfl) (by kernel_rfl) (by kernel_rfl) (by kernel_rfl) rfl rfl (fun u H => x_nilCheck rfl) (SH.sub H SB) ?_
      refine DL.take (i := 13) [13, 14] rfl (by kernel_rfl) (by kernel_rfl) (by kernel_rfl) (by kernel_rfl) rfl rfl (fun u H => x_fieldAddrO Tryz.underlying190 rfl Tryz.sizeOf3 (by decide) (show _ = 2 from rfl) rfl) (SH.sub H SB) ?_
      refine DL.one (i := 14) (by kernel_rfl) rfl rfl ?_
      refine s_store H Tryz.sizeOf3 rfl EV (by first | rfl | assumption | exact Rs.oneC RS | (simp only [List.all_cons, List.all_nil, Bool.and_true, Bool.and_eq_true, Row.cells, Flight.L, Hd.L]; (repeat' constructor) <;> first | rfl | assumption | exact Rs.oneC RS)) AT (by first | (simp; done) | decide | omega) ?_
      clear H
      intro w12_14 H
      try dsimp only [replC, List.cons_append, List.nil_append, List.append_nil, agg, cellsL, Value.cells, List.toList_toArray, List.set_cons_zero, List.set_cons_succ, spliceL, List.take_succ_cons, List.take_zero, List.drop_succ_cons, List.drop_zero, List.length_cons, List.length_nil, Nat.reduceAdd, Row.cells, Flight.L, Hd.L] at H
      refine LW.nil (thenE_norm ⟨fun h => Bool.noConfusion (show true = false from h), ?_⟩)
      refine DL.done (by kernel_rfl) ?_
      refine blockE_norm ?_
      refine thenE_norm (h12 _ _ ?_); clear h12; try clear K12
      refine CW.region ?_
      refine zg (zt iP iM) ?_
      refine LW.nil ?_
      refine thenE_norm ⟨rfl, ?_⟩
      exact ⟨_, by omega, i + 1, _, _, _, _, rfl, by omega, rfl, (by rw [List.length_set]; exact hhl), hml2, fun h hh => (List.mem_or_eq_of_mem_set hh).elim (hhr h) (fun e => by rw [e]; exact hxr), H⟩
    · try simp only [zb] at hc3
      refine CW.exit (thenE_exit (thenE_exit (blockE_hit ?_)))
      refine thenE_norm (h8 _ _ ?_); clear h8; try clear K8
      refine CW.seq fun K17 h17 => zr ?_
      refine zg (zt iM (zt iK (zt (fA 1) (zt iL iM)))) ?_
      refine zg (zt (zk (r_addw rfl rfl rfl)) (zt iK (fA 1))) ?_
      refine s_store H Tryz.sizeOf3 rfl EV (by first | rfl | assumption | exact Rs.oneC RS | (simp only [List.all_cons, List.all_nil, Bool.and_true, Bool.and_eq_true, Row.cells, Flight.L, Hd.L]; (repeat' constructor) <;> first | rfl | assumption | exact Rs.oneC RS)) AT (by first | (simp; done) | decide | omega) ?_
      clear H
      intro w14_8 H
      try dsimp only [replC, List.cons_append, List.nil_append, List.append_nil, agg, cellsL, Value.cells, List.toList_toArray, List.set_cons_zero, List.set_cons_succ, spliceL, List.take_succ_cons, List.take_zero, List.drop_succ_cons, List.drop_zero, List.length_cons, List.length_nil, Nat.reduceAdd, Row.cells, Flight.L, Hd.L] at H
      refine LW.nil ?_
      refine thenE_norm ?_
      refine cut (K := K17) [6] (fun σ => ?_)
      refine zg zm ?_
      refine h17 _ _ ?_; clear h17; try clear K17
      refine CW.seq fun K18 h18 => zr ?_
      refine zg (zt iM (zt iA iA)) (zn h18 ?_); try clear h18
      refine CW.ret (ret2 Tryz.results150 EV EV ?_)
      obtain ⟨F', K⟩ := ClockA.mkL (L := []) hhl hn hhr (SH.sel H [0, 1] (by decide) rfl)
      exact ⟨_, _, _, rfl, SH.give K (List.Sublist.refl _) ⟨trivial, trivial⟩⟩
end Go.Proofs.YtgmmbdmdimkfjaaGreat
namespace Go.Proofs.YtgmmbdmdimkfjaaGreat
set_option maxRecDepth 100000
open Go.V
theorem hMul : (upTo 16).all (fun n => okPure (evO Tryz.prog noneO) 136 [.int .u64 1, .int .u64 (.ofNat n)] [] [.tup [.int .u64 0, .int .u64 (.ofNat n)]]) = true := by kernel_rfl
end Go.Proofs.YtgmmbdmdimkfjaaGreat
namespace Go.Proofs.YtgmmbdmdimkfjaaGreat
set_option linter.unusedSimpArgs false
set_option linter.unusedVariables false
set_option maxRecDepth 20000
open Go.V Go.RowKit Go.ChangeShapes Go.WideShapes
theorem Mul_c {n : Int} (w : World) (h0 : 0 ≤ n) (h1 : n ≤ 15) : Calls Tryz.prog 136 #[.int .u64 1, .int .u64 n] w fun e w' => e = .returned (.tuple #[.int .u64 0, .int .u64 n]) ∧ Ext0 w w' := by
  obtain ⟨k, rfl⟩ : ∃ k : Nat, n = k := ⟨n.toNat, by omega⟩
  refine Calls.mono (pure_c (σ := fun _ => 0) (evOK noneO_ok) (List.all_eq_true.1 hMul k (mem_upTo.2 (by omega))) (fun q hq => by cases hq) w (ls := [.int .u64 1, .int .u64 k]) (by simp only [RVs]; exact ⟨_, _, rfl, by simp only [RV], _, _, rfl, by simp only [RV]; rfl, rfl⟩)) ?_
  rintro en w' ⟨r, hr, v, B, rfl, hB, hv, e⟩
  rw [List.mem_singleton] at hr
  subst hr
  simp only [RV, RVs] at hv
  obtain ⟨vs, rfl, _, _, rfl, rfl, _, _, rfl, rfl, rfl⟩ := hv
  exact ⟨rfl, e⟩
theorem onesH (xs : List Hd) : Ones xs := fun _ _ => rfl
theorem clean0 : 0 ∈ cleanL := by decide
theorem clean1 : 4607182418800017408 ∈ cleanL := by decide
theorem flat_repl {α : Type} [Row α] (z : α) : ∀ n : Nat, flat (List.replicate n z) = (List.replicate n (Row.cells z)).flatten
  | 0 => rfl
  | n + 1 => by rw [List.replicate_succ, flat_cons, flat_repl z n, List.replicate_succ, List.flatten_cons]
theorem s_makeN {P : Program} {N : Fr} {ops : Array Oper} {rest : List Oper} {Q : EPost} {ρ : Env} {w0 w : World} {U G : Nat → Prop} {L : List Ch} {T E ty : TypeId} {pos : String} {af : Array Edge} {d : Nat} {x y : Operand} {α : Type} {_r : Row α} {i : TypeInfo} {zv : Value} {kl kc : IntKind} (z : α) (n : Nat) (H : SH U G w0 w L) (hd : Nat.blt d N.n = true) (ht : P.underlying T = some (.slice E)) (hi : P.info? E = some i) (hz : i.zero = some zv) (hs : i.size = Row.sz α) (hzc : cellsL zv = Row.cells z) (hone : (Row.cells z).all oneC = true)
    (hx : ev ρ x = .int kl n) (hy : ev ρ y = .int kc n) (hbytes : (i.bytes : Int) * n ≤ 281474976710656) (hn : n ≤ 1000000)
    (h : ∀ b w', SH U G w0 w' (L ++ [.B b E (flat (List.replicate n z))]) → LW P N ops rest Q (upd ρ d (.slice (some ⟨b, 0, none⟩) n n)) w') :
    LW P N ops (⟨some d, .makeSlice T x y, ty, pos, af, none⟩ :: rest) Q ρ w := by
  have hr := run_make (P := P) w T E i zv ht hi hz kl kc (n : Int) (n : Int) (by omega) (Int.le_refl _) hbytes (by omega)
  have hzs : zv.cells.size = i.size := by rw [cellsL_eq, hzc, List.size_toArray, Row.len, hs]
  have hm : madeCells zv.cells ((n : Int).toNat * i.size) = (List.replicate n (cellsL zv)).flatten.toArray := by
    unfold madeCells
    rw [Int.toNat_natCast, ← hzs, made_rep, cellsL_eq]
  rw [hm] at hr
  refine LW.v (w' := w.alloc (.cells (List.replicate n (cellsL zv)).flatten.toArray E)) hd (by simp only [execOp, hx, hy, Sem.run_bind, hr, Result.andThen_ok, Sem.run_pure, Int.toNat_natCast]) (h w.heap.size _ (H.call ⟨(alloc_ext w _).mono fun _ h => h.elim, Val.one ⟨?_, Ch.stB, fun k hk => ?_, fun _ k hk => .inr (by cases hk; exact Nat.le_refl _), fun k hk => .inl (.inr (by cases hk; exact Nat.le_refl _))⟩⟩))
  · rw [flat_repl, ← hzc]
    exact alloc_new w _ _
  · cases hk
    exact (alloc_new w _ _ : Blk _ _ E _).lt
theorem flat_splice {α : Type} [Row α] {hs ms : List α} {k : Nat} (h : k ≤ hs.length) : spliceL (flat hs) (k * Row.sz α) (flat ms) = flat (hs.take k ++ ms ++ hs.drop (k + ms.length)) := by
  rw [flat_app, flat_app, flat_take, flat_drop, spliceL, flat_len ms, Nat.add_mul]
theorem mem_app3 {α : Type} {P : α → Prop} {hs ms : List α} {k j : Nat} (h1 : ∀ x ∈ hs, P x) (h2 : ∀ x ∈ ms, P x) : ∀ x ∈ hs.take k ++ ms ++ hs.drop j, P x := by
  intro x hx
  rcases List.mem_append.1 hx with hx | hx
  · rcases List.mem_append.1 hx with hx | hx
    · exact h1 x (List.mem_of_mem_take hx)
    · exact h2 x hx
  · exact h1 x (List.mem_of_mem_drop hx)
set_option maxHeartbeats 2000000 in
theorem Repeat_c {v : Value} {h : Hd} {n : Nat} {F : Nat → Prop} (w : World) (hv : Rs F w v [h]) (hr : h.r ∈ cleanL) (hn0 : 1 ≤ n) (hn : n ≤ 15) : Calls Tryz.prog 88 #[v, .int .i64 n] w fun e w' => ∃ v' hs g, e = .returned v' ∧ hs.length = n ∧ (∀ x ∈ hs, x.r ∈ cleanL) ∧ SH Non Non w w' [.O 188 v' (hs : List Hd) g] := by
  have H := (SH.start w).arg hv
  have hl1 : ([h] : List Hd).length = 1 := rfl
  refine calls_of_CW Tryz.func88 rfl Tryz.ntmps88 (Nat.le_of_ble_eq_true rfl) ?_
  simp only [argE, argFrom, Nat.reduceAdd]
  refine CW.seq fun K1 h1 => zr ?_
  refine zg iA (zn h1 ?_); try clear h1
  refine CW.seq (fun K2 h2 => ?_)
  refine CW.seq fun K3 h3 => zr ?_
  refine zg (zt iM ilt) (zn h3 ?_); try clear h3
  refine CW.condF rfl (by first | rfl | (simp only [zd]; omega) | simp_all) ?_
  refine CW.skip ?_
  refine thenE_norm (h2 _ _ ?_); clear h2; try clear K2
  refine CW.seq fun K4 h4 => zr ?_
  refine zg (zt iM (zt iVV (zt iW (zt iM iW)))) ?_
  refine r_call rfl Tryz.call136 HS (Mul_c _ (by omega) (by omega)) ?_
  rintro _ w3_5 ⟨rfl, X⟩
  refine ⟨_, rfl, ?_⟩
  replace H := SH.same H X
  clear X
  refine zg (zt iM (zt iE (zt iE (zt iA iA)))) (zc [0, 5, 6] h4 fun σ => zg zm ?_); try clear h4
  refine CW.seq (fun K5 h5 => ?_)
  refine CW.seq fun K6 h6 => zr ?_
  refine zg (zt iM (zt igt iM)) ?_
  refine' LW.grpOr (n := 3) (ts := [0, 6]) (d := 26) (tj := 23) rfl (fun hg4_3 => ?_) (fun hg4_3 => ?_) (fun σ => ?_)
  rotate_left
  · simp only [List.take_succ_cons, List.take_zero]
    have hg4_3P := hg4_3
    try simp only [zd] at hg4_3P
    refine LW.want rfl rfl hg4_3 ?_
    refine zg iM ?_
    refine LW.want rfl rfl hg4_3 ?_
    refine zg igt ?_
    refine zg (zk (r_pickF rfl rfl hg4_3)) ?_
    refine LW.nil (thenE_norm ⟨rfl, rfl, rfl⟩)
  · simp only [List.take_succ_cons, List.take_zero]
    refine LW.skip rfl (fun _ e => by cases e; decide) rfl hg4_3 ?_
    refine LW.skip rfl (fun _ e => by cases e; decide) rfl hg4_3 ?_
    refine zg (zk (r_pickT rfl rfl hg4_3)) ?_
    refine LW.nil (thenE_norm ⟨rfl, rfl, rfl⟩)
  simp only [setL, keepE, upd_get, ev, Nat.reduceEqDiff, ↓reduceIte]; simp only [List.drop_succ_cons, List.drop_zero]
  refine LW.nil ?_
  refine thenE_norm (h6 _ _ ?_); clear h6; try clear K6
  refine CW.condF rfl (by first | rfl | (simp only [zd]; omega) | simp_all) ?_
  refine CW.skip ?_
  refine thenE_norm (h5 _ _ ?_); clear h5; try clear K5
  refine CW.seq fun K7 h7 => zr ?_
  refine zg (zt iM iW) ?_
  refine s_makeN (⟨0, 0⟩ : Hd) n H rfl Tryz.underlying185 Tryz.type188 rfl rfl rfl rfl (by rfl) (by rfl) (by show (16 : Int) * _ ≤ _; omega) (by omega) ?_
  clear H
  intro b6 w6 H
  try dsimp only [List.cons_append, List.nil_append] at H
  refine zg iA (zn h7 ?_); try clear h7
  refine CW.seq (fun K8 h8 => ?_)
  have hsr := (SH.rsR H (i := 0) rfl).src (P := Tryz.prog)
  have hfl : (flat (List.replicate n (⟨0, 0⟩ : Hd))).length = n * 2 := by rw [flat_len, List.length_replicate]; rfl
  refine CW.region ?_
  refine zg (zt iM iM) ?_
  refine s_copyB (m := 1) (q := 1) (s := 2) H rfl Tryz.underlying185 Tryz.type188 (by rfl) rfl rfl (At.there At.here) hsr.2.2.1 (by omega) hsr.2.2.2.1 hsr.2.1 hsr.1 (by omega) ?_
  clear H
  intro w7 H
  try dsimp only [replC, List.append_nil, List.cons_append, List.nil_append] at H
  refine zg iA (zc [7, 8] h8 fun σ => zg zm ?_); try clear h8
  refine CW.seq (fun K9 h9 => ?_)
  refine CW.block ?_
  have H2 : SH Non Any w w7 [.R (Old w) v [h], .B b6 188 (flat (List.take 0 (List.replicate n (⟨0, 0⟩ : Hd)) ++ [h] ++ List.drop (0 + [h].length) (List.replicate n (⟨0, 0⟩ : Hd))))] := by
    have hq := flat_splice (hs := List.replicate n (⟨0, 0⟩ : Hd)) (ms := [h]) (k := 0) (Nat.zero_le _)
    rw [Nat.zero_mul] at hq
    rw [← hq]
    exact H
  refine CW.loopR [7] [8] (fun m vs w' => ∃ (ki : Int) (k : Nat) (hs : List Hd), vs = [.int .i64 ki] ∧ ki = k ∧ 1 ≤ k ∧ k ≤ n ∧ m = n - k ∧ hs.length = n ∧ (∀ x ∈ hs, x.r ∈ cleanL) ∧ SH Non Any w w' [.R (Old w) v [h], .B b6 188 (flat hs)]) (n - 1) ?_ ?_
  · exact ⟨1, 1, _, rfl, rfl, by omega, by omega, rfl, by simp; omega, mem_app3 (fun x hx => by rw [List.eq_of_mem_replicate hx]; exact clean0) (fun x hx => by rw [List.mem_singleton] at hx; rw [hx]; exact hr), H2⟩
  try clear H
  rintro n1 vs1 wL1 σ ⟨_, k, hs, rfl, rfl, hk1, hk, rfl, hhl, hhr, H⟩
  refine zg zm ?_
  refine CW.seq (fun K10 h10 => ?_)
  refine CW.seq (fun K11 h11 => ?_)
  skip
  refine CW.region ?_
  refine zg (zt iM (zt iM (zt iVV ilt))) (zn h11 ?_); try clear h11
  refine CW.cond rfl (fun hc3 => ?_) (fun hc3 => ?_)
  · try simp only [zb] at hc3
    refine CW.skip ?_
    refine thenE_norm (h10 _ _ ?_); clear h10; try clear K10
    refine CW.block ?_
    refine CW.drawP [] [] H (by dsimp only [pickC, nthC] <;> rfl) SB (by kernel_rfl) rfl ?_
    clear H
    intro w9d H
    refine DL.take (i := 0) [] rfl (by kernel_rfl) (by kernel_rfl) (by kernel_rfl) (by kernel_rfl) rfl rfl (fun u H => x_move ) (SH.sub H SB) ?_
    refine DL.take (i := 1) [] rfl (by kernel_rfl) (by kernel_rfl) (by kernel_rfl) (by kernel_rfl) rfl rfl (fun u H => x_move ) (SH.sub H SB) ?_
    refine DL.take (i := 2) [] rfl (by kernel_rfl) (by kernel_rfl) (by kernel_rfl) (by kernel_rfl) rfl rfl (fun u H => x_move ) (SH.sub H SB) ?_
    refine DL.take (i := 3) [] rfl (by kernel_rfl) (by kernel_rfl) (by kernel_rfl) (by kernel_rfl) rfl rfl (fun u H => x_sliceLp Tryz.underlying185 Tryz.sizeOf188 rfl rfl (by omega) (by omega) (by omega)) (SH.sub H SB) ?_
    refine DL.take (i := 4) [] rfl (by kernel_rfl) (by kernel_rfl) (by kernel_rfl) (by kernel_rfl) rfl rfl (fun u H => x_move ) (SH.sub H SB) ?_
    refine DL.take (i := 5) [] rfl (by kernel_rfl) (by kernel_rfl) (by kernel_rfl) (by kernel_rfl) rfl rfl (fun u H => x_move ) (SH.sub H SB) ?_
    refine DL.take (i := 6) [] rfl (by kernel_rfl) (by kernel_rfl) (by kernel_rfl) (by kernel_rfl) rfl rfl (fun u H => x_sliceHc Tryz.underlying185 Tryz.sizeOf188 rfl rfl (by omega) (by omega)) (SH.sub H SB) ?_
    refine DL.one (i := 7) (by kernel_rfl) rfl rfl ?_
    have hlm : (hs.take (min k (n - k))).length = min k (n - k) := by rw [List.length_take]; omega
    have hfm : (flat (hs.take (min k (n - k)))).length = min k (n - k) * 2 := by rw [flat_len, hlm]; rfl
    have hfh : (flat hs).length = n * 2 := by rw [flat_len, hhl]; rfl
    have hpt := Cells.part (o := 0) (SH.cells H (At.there At.here)) (min k (n - k) * 2)
    rw [List.drop_zero, show (flat hs).take (min k (n - k) * 2) = flat (hs.take (min k (n - k))) from (flat_take hs _).symm] at hpt
    refine s_copyB (m := min k (n - k)) (q := k) (s := 2) (news := flat (hs.take (min k (n - k)))) H rfl Tryz.underlying185 Tryz.type188 (by rfl) rfl rfl (At.there At.here) (by first | (simp [Builtin.lenOf]; done) | rfl) (by simp) (run_firstCells_some (P := Tryz.prog) _ 2 (min k (n - k)) ⟨b6, 0, none⟩ _ _ (flat (hs.take (min k (n - k)))) hfm (fun j u hj => by rw [addr_add]; exact hpt.get j u hj)) (onesH _).flat hfm (by show k * 2 + _ ≤ _; omega) ?_
    clear H
    intro w97 H
    try dsimp only [replC, List.append_nil, List.cons_append, List.nil_append] at H
    replace H : SH Non Any w w97 [.R (Old w) v [h], .B b6 188 (flat (hs.take k ++ hs.take (min k (n - k)) ++ hs.drop (k + (hs.take (min k (n - k))).length)))] := by
      rw [← flat_splice (by omega)]
      exact H
    refine LW.nil (thenE_norm ⟨fun _ => (SH.sub H SB), ?_⟩)
    refine DL.take (i := 8) [] rfl (by kernel_rfl) (by kernel_rfl) (by kernel_rfl) (by kernel_rfl) rfl rfl (fun u H => x_add rfl rfl (wr_i64 (by omega) (by omega))) (SH.sub H SB) ?_
    refine DL.take (i := 9) [] rfl (by kernel_rfl) (by kernel_rfl) (by kernel_rfl) (by kernel_rfl) rfl rfl (fun u H => x_assign ) (SH.sub H SB) ?_
    refine DL.done (by kernel_rfl) ?_
    refine blockE_norm ?_
    refine thenE_norm ⟨rfl, ?_⟩
    exact ⟨_, by omega, _, k + min k (n - k), _, rfl, by omega, by omega, by omega, rfl, by simp [hhl]; omega, mem_app3 hhr (fun x hx => hhr x (List.mem_of_mem_take hx)), H⟩
  · try simp only [zb] at hc3
    refine CW.exit (thenE_exit (thenE_exit (blockE_hit ?_)))
    refine thenE_norm (h9 _ _ ?_); clear h9; try clear K9
    refine CW.seq fun K12 h12 => zr ?_
    refine zg (zt iM iA) (zn h12 ?_); try clear h12
    refine CW.ret (ret1 Tryz.results88 EV ?_)
    obtain rfl : k = n := by omega
    have hout := SH.ofB (α := Hd) (cap := k) H (i := 1) rfl hs k hhl.symm (onesH _) (by rw [flat_len, hhl]) (Nat.le_refl _) (by simp only [maxLen]; omega) (List.take_of_length_le (by rw [flat_len, hhl]; exact Nat.le_refl _))
    exact ⟨_, hs, _, rfl, hhl, hhr, SH.give (SH.sel hout [1] (by decide) rfl) (List.Sublist.refl _) ⟨trivial, trivial⟩⟩
set_option maxHeartbeats 2000000 in
theorem ClockNew_c {n : Nat} (w : World) (hn0 : 1 ≤ n) (hn : n ≤ 15) : Calls Tryz.prog 37 #[.int .i64 n] w fun e w' => ∃ p F, e = .returned (.pointer (some ⟨p, 0, none⟩)) ∧ SH Non Non w w' [.P F (ClockA p n F)] := by
  have H := SH.start (U := Non) (G := Any) w
  refine calls_of_CW Tryz.func37 rfl Tryz.ntmps37 (Nat.le_of_ble_eq_true rfl) ?_
  simp only [argE, argFrom, Nat.reduceAdd]
  refine CW.seq fun K1 h1 => zr ?_
  refine zg iA (zn h1 ?_); try clear h1
  refine CW.seq fun K2 h2 => zr ?_
  refine zg (zk (r_buildQ rfl Tryz.underlying188 Tryz.zeroValue188 rfl (pl := [(0, 1), (1, 1)]) (by intro w; simp [go_sem]) (qs := [(1, [_])]) (cs := [.int .i64 0, _]) ⟨rfl, cells_one EV (by first | rfl | exact Rs.oneC RS), trivial⟩ rfl)) ?_
  refine r_buildSliceA (vs := [_]) rfl Tryz.underlying185 Tryz.sizeOf188 Tryz.zeroValue188 rfl rfl rfl rfl BN rfl (by intro v hv; simp only [List.mem_cons, List.not_mem_nil, or_false] at hv; rcases hv with rfl <;> rfl) ?_
  intro b1_1 w1_1 hb1_1 hs1_1 hE1_1 hB1_1
  replace H := SH.call H (SH.fromB hE1_1 hb1_1 hs1_1 hB1_1)
  clear hb1_1 hs1_1 hE1_1 hB1_1
  try dsimp only [replC, List.cons_append, List.nil_append, List.append_nil, agg, cellsL, Value.cells, List.toList_toArray, List.set_cons_zero, List.set_cons_succ, spliceL, List.take_succ_cons, List.take_zero, List.drop_succ_cons, List.drop_zero, List.length_cons, List.length_nil, Nat.reduceAdd, Row.cells, Flight.L, Hd.L] at H
  replace H := SH.row (b := b1_1) (xs := ([⟨0, 4607182418800017408⟩] : List Hd)) (n := 1) (cap := 1) H AT (by simp only [flat, List.flatMap_cons, List.flatMap_nil, cellsL, agg, List.append_nil, List.cons_append, List.nil_append, List.toList_toArray, Row.cells, Flight.L, Hd.L] <;> rfl) (by intro x hx; first | rfl | (simp at hx; done) | (simp only [List.mem_cons, List.not_mem_nil, or_false] at hx; rcases hx with rfl <;> first | rfl | exact (by first | rfl | assumption | exact Rs.oneC RS | (simp only [List.all_cons, List.all_nil, Bool.and_true, Bool.and_eq_true, Row.cells, Flight.L, Hd.L]; (repeat' constructor) <;> first | rfl | assumption | exact Rs.oneC RS)))) (by rfl) rfl (by decide)
  try dsimp only [replC, List.cons_append, List.nil_append, List.append_nil, agg, cellsL, Value.cells, List.toList_toArray, List.set_cons_zero, List.set_cons_succ, spliceL, List.take_succ_cons, List.take_zero, List.drop_succ_cons, List.drop_zero, List.length_cons, List.length_nil, Nat.reduceAdd, Row.cells, Flight.L, Hd.L] at H
  refine zg iM ?_
  refine zg (zk (r_max rfl EV EV)) ?_
  refine zg (zk (r_min rfl EV EV)) ?_
  rw [show min (max (n : Int) 0) 15 = n by omega]
  refine r_call rfl Tryz.call88 HS (Repeat_c (n := n) _ (SH.rsO H (i := 0) rfl) clean1 (by omega) (by omega)) ?_
  rintro _ w1_5 ⟨v1_5, hs1_5, g1_5, rfl, hhl, hhr, K⟩
  refine ⟨_, rfl, ?_⟩
  replace H := SH.call H K
  clear K
  try dsimp only [replC, List.cons_append, List.nil_append, List.append_nil] at H
  refine zg (zk (r_buildQ rfl Tryz.underlying190 Tryz.zeroValue190 rfl (pl := [(0, 1), (1, 1), (2, 1)]) (by intro w; simp [go_sem]) (qs := [(0, [_])]) (cs := [_, .int .i64 0, .int .i64 0]) ⟨rfl, cells_one EV (by first | rfl | exact Rs.oneC RS), trivial⟩ rfl)) ?_
  refine s_box H rfl EV rfl ?_
  clear H
  intro b1_7 w1_7 H
  try dsimp only [replC, List.cons_append, List.nil_append, List.append_nil, agg, cellsL, Value.cells, List.toList_toArray, List.set_cons_zero, List.set_cons_succ, spliceL, List.take_succ_cons, List.take_zero, List.drop_succ_cons, List.drop_zero, List.length_cons, List.length_nil, Nat.reduceAdd, Row.cells, Flight.L, Hd.L] at H
  refine zg iA (zc [2] h2 fun σ => zg zm ?_); try clear h2
  refine CW.ret (ret1 Tryz.results37 EV ?_)
  obtain ⟨F, K⟩ := ClockA.mkL (L := []) hhl hn hhr (SH.sel H [2, 1] (by decide) rfl)
  exact ⟨_, _, rfl, SH.give K (List.Sublist.refl _) ⟨trivial, trivial⟩⟩
end Go.Proofs.YtgmmbdmdimkfjaaGreat
namespace Go.Proofs.YtgmmbdmdimkfjaaGreat
set_option maxRecDepth 100000
open Go.V
def emptyS : AV := .str (ByteArray.mk #[])
def req0 : AV := .agg [n0, n0, n0, n0, emptyS]
def tmCli : List AO := [.cells [sy 0, sy 1, sy 2, sy 3, sy 4, sy 5, sy 6, sy 7, sy 8, sy 9, sy 10, sy 11, n0, nl, n0, nl, .bool false, n0, n0, n0, n0, emptyS, n0, .bool false, n0, n0, sy 12] 178]
def okCliNew (C : Caller) (R id : Nat) (ks : List (BT × Bool)) : Bool := match C 40 [.agg (confA R), nI id] ⟨.nil, 0, 0, ks⟩ with
  | some [(.tup [.ptr n 0, .int .i64 (.ofNat 0)], S)] => (match matchT tmCli n S with
    | some _ => true
    | none => false)
  | _ => false
/-- What is known where a client's number is below how many there are. -/
def factsI (id : Nat) : List (BT × Bool) := (.leq (.sym 0) (.lit id), false) :: factsC
theorem hCliNew : ([1, 3, 5, 7] : List Nat).all (fun R => (upTo 5).all fun id => okCliNew (evO Tryz.prog noneO) R id (factsI id)) = true := by kernel_rfl
theorem hCliStep : chkV (evO Tryz.prog noneO) 144 [.ptr 0 0, sy 100] (stT tmCli []) tmCli nl = true := by kernel_rfl
theorem hCliOut : chkV (evO Tryz.prog noneO) 143 [.ptr 0 0] (stT tmCli []) tmCli (.tup [req0, .bool false]) = true := by kernel_rfl
end Go.Proofs.YtgmmbdmdimkfjaaGreat
namespace Go.Proofs.YtgmmbdmdimkfjaaGreat
set_option linter.unusedSimpArgs false
set_option linter.unusedVariables false
set_option maxRecDepth 20000
open Go.V Go.RowKit Go.ChangeShapes Go.WideShapes
/-! ### Rows of things -/
abbrev Thing := Nat → Nat → (Nat → Prop) → World → Prop
structure Thing.Ok (Q : Thing) : Prop where
  st : ∀ i p F, Ch.St F (Q i p F)
  lt : ∀ i p F w, Q i p F w → ∀ b, F b → b < w.heap.size
/-- At ps[i] there is Q i; they lie apart. -/
def Lst (Q : Thing) (ps : List Nat) (F : Nat → Prop) (w : World) : Prop := ∃ Fs : Nat → Nat → Prop, (∀ i p, ps[i]? = some p → Q i p (Fs i) w) ∧ (∀ i j b, i ≠ j → i < ps.length → j < ps.length → Fs i b → Fs j b → False) ∧ (∀ b, F b ↔ ∃ i, i < ps.length ∧ Fs i b)
/-- .. all but the k-th. -/
def LstBut (Q : Thing) (ps : List Nat) (k : Nat) (F : Nat → Prop) (w : World) : Prop := ∃ Fs : Nat → Nat → Prop, (∀ i p, i ≠ k → ps[i]? = some p → Q i p (Fs i) w) ∧ (∀ i j b, i ≠ j → i < ps.length → j < ps.length → i ≠ k → j ≠ k → Fs i b → Fs j b → False) ∧ (∀ b, F b ↔ ∃ i, i < ps.length ∧ i ≠ k ∧ Fs i b)
section
variable {Q : Thing} {ps : List Nat} {F : Nat → Prop} {w : World}
theorem Lst.lt (hQ : Q.Ok) (h : Lst Q ps F w) : ∀ b, F b → b < w.heap.size := by
  obtain ⟨Fs, h1, h2, h3⟩ := h
  intro b hb
  obtain ⟨i, hi, hb⟩ := (h3 b).1 hb
  exact hQ.lt i _ _ w (h1 i _ (List.getElem?_eq_getElem hi)) b hb
theorem Lst.st (hQ : Q.Ok) : Ch.St F (Lst Q ps F) := by
  intro V w w' ⟨Fs, h1, h2, h3⟩ e hd
  exact ⟨Fs, fun i p hp => hQ.st i p _ V w w' (h1 i p hp) e fun b hb => hd b ((h3 b).2 ⟨i, lt_of_get hp, hb⟩), h2, h3⟩
theorem LstBut.lt {k : Nat} (hQ : Q.Ok) (h : LstBut Q ps k F w) : ∀ b, F b → b < w.heap.size := by
  obtain ⟨Fs, h1, h2, h3⟩ := h
  intro b hb
  obtain ⟨i, hi, hk, hb⟩ := (h3 b).1 hb
  exact hQ.lt i _ _ w (h1 i _ hk (List.getElem?_eq_getElem hi)) b hb
theorem LstBut.st {k : Nat} (hQ : Q.Ok) : Ch.St F (LstBut Q ps k F) := by
  intro V w w' ⟨Fs, h1, h2, h3⟩ e hd
  exact ⟨Fs, fun i p hk hp => hQ.st i p _ V w w' (h1 i p hk hp) e fun b hb => hd b ((h3 b).2 ⟨i, lt_of_get hp, hk, hb⟩), h2, h3⟩
theorem Lst.nil : Lst Q [] Non w := ⟨fun _ _ => False, fun i p h => (by cases h), fun _ _ _ _ h => absurd h (Nat.not_lt_zero _), fun b => ⟨fun h => h.elim, fun ⟨i, h, _⟩ => absurd h (Nat.not_lt_zero _)⟩⟩
variable {U G : Nat → Prop} {w0 : World} {L : List Ch}
/-- One is taken out. -/
theorem SH.lstOpen {j k p : Nat} (hQ : Q.Ok) (H : SH U G w0 w L) (hj : At L j (.P F (Lst Q ps F))) (hk : ps[k]? = some p) : ∃ Fk Fr, SH U G w0 w (replC L j [.P Fk (Q k p Fk), .P Fr (LstBut Q ps k Fr)]) := by
  have hp := (H.val.1 _ hj.mem).holds
  have hlt := (H.val.1 _ hj.mem).lt
  obtain ⟨Fs, h1, h2, h3⟩ := hp
  have hkl := lt_of_get hk
  refine ⟨Fs k, fun b => ∃ i, i < ps.length ∧ i ≠ k ∧ Fs i b, H.unpack hj ⟨?_, hlt⟩⟩
  have q1 : LstBut Q ps k (fun b => ∃ i, i < ps.length ∧ i ≠ k ∧ Fs i b) w := ⟨Fs, fun i p _ hp => h1 i p hp, fun i j b hij hi hj _ _ => h2 i j b hij hi hj, fun b => Iff.rfl⟩
  refine Val.cons ⟨h1 k p hk, hQ.st k p _, hQ.lt k p _ w (h1 k p hk), fun _ b hb => (h3 b).2 ⟨k, hkl, hb⟩, fun b hb => .inl ((h3 b).2 ⟨k, hkl, hb⟩)⟩ (Val.one ⟨q1, LstBut.st hQ, q1.lt hQ, fun _ b ⟨i, hi, _, hb⟩ => (h3 b).2 ⟨i, hi, hb⟩, fun b ⟨i, hi, _, hb⟩ => .inl ((h3 b).2 ⟨i, hi, hb⟩)⟩) ?_
  intro d hd _ b hb1 hb2
  rw [List.mem_singleton] at hd
  subst hd
  obtain ⟨i, hi, hik, hb2⟩ := hb2
  exact h2 k i b (Ne.symm hik) hkl hi hb1 hb2
/-- .. and put back. -/
theorem SH.lstClose {k p : Nat} {Fk Fr : Nat → Prop} (hQ : Q.Ok) (H : SH U G w0 w (.P Fk (Q k p Fk) :: .P Fr (LstBut Q ps k Fr) :: L)) (hk : ps[k]? = some p) : ∃ F, SH U G w0 w (.P F (Lst Q ps F) :: L) := by
  have hkl := lt_of_get hk
  have hap : ∀ b, Fk b → Fr b → False := fun b h1 h2 => H.val.apart (i := 0) (j := 1) rfl rfl (by decide) (.inl trivial) b h1 h2
  refine ⟨_, SH.absorb (A' := Lst Q ps (fun b => Fk b ∨ Fr b)) H trivial (Lst.st hQ) fun h1 h2 => ?_⟩
  obtain ⟨Fs, g1, g2, g3⟩ := h2
  refine ⟨fun i => if i = k then Fk else Fs i, ?_, ?_, ?_⟩
  · intro i q hq
    by_cases e : i = k
    · subst e
      rw [hk] at hq
      cases hq
      simpa using h1
    · simp only [if_neg e]
      exact g1 i q e hq
  · intro i j b hij hi hj m1 m2
    by_cases e : i = k
    · rw [if_pos e] at m1
      rw [if_neg (by omega)] at m2
      exact hap b m1 ((g3 b).2 ⟨j, hj, by omega, m2⟩)
    · rw [if_neg e] at m1
      by_cases e' : j = k
      · rw [if_pos e'] at m2
        exact hap b m2 ((g3 b).2 ⟨i, hi, e, m1⟩)
      · rw [if_neg e'] at m2
        exact g2 i j b hij hi hj e e' m1 m2
  · intro b
    constructor
    · rintro (hb | hb)
      · exact ⟨k, hkl, by simpa using hb⟩
      · obtain ⟨i, hi, hik, hb⟩ := (g3 b).1 hb
        exact ⟨i, hi, by simpa [hik] using hb⟩
    · rintro ⟨i, hi, hb⟩
      by_cases e : i = k
      · rw [if_pos e] at hb
        exact .inl hb
      · rw [if_neg e] at hb
        exact .inr ((g3 b).2 ⟨i, hi, e, hb⟩)
/-- One more. -/
theorem SH.lstSnoc {p : Nat} {Fk : Nat → Prop} (hQ : Q.Ok) (H : SH U G w0 w (.P F (Lst Q ps F) :: .P Fk (Q ps.length p Fk) :: L)) : ∃ F, SH U G w0 w (.P F (Lst Q (ps ++ [p]) F) :: L) := by
  have hap : ∀ b, F b → Fk b → False := fun b h1 h2 => H.val.apart (i := 0) (j := 1) rfl rfl (by decide) (.inl trivial) b h1 h2
  refine ⟨_, SH.absorb (A' := Lst Q (ps ++ [p]) (fun b => F b ∨ Fk b)) H trivial (Lst.st hQ) fun h1 h2 => ?_⟩
  obtain ⟨Fs, g1, g2, g3⟩ := h1
  have hl : (ps ++ [p]).length = ps.length + 1 := by simp
  refine ⟨fun i => if i = ps.length then Fk else Fs i, ?_, ?_, ?_⟩
  · intro i q hq
    by_cases e : i = ps.length
    · subst e
      rw [List.getElem?_append_right (Nat.le_refl _), Nat.sub_self] at hq
      cases hq
      simp only [if_true]
      exact h2
    · have hi := lt_of_get hq
      rw [List.getElem?_append_left (by omega)] at hq
      simp only [if_neg e]
      exact g1 i q hq
  · intro i j b hij hi hj m1 m2
    by_cases e : i = ps.length
    · rw [if_pos e] at m1
      rw [if_neg (by omega)] at m2
      exact hap b ((g3 b).2 ⟨j, by omega, m2⟩) m1
    · rw [if_neg e] at m1
      by_cases e' : j = ps.length
      · rw [if_pos e'] at m2
        exact hap b ((g3 b).2 ⟨i, by omega, m1⟩) m2
      · rw [if_neg e'] at m2
        exact g2 i j b hij (by omega) (by omega) m1 m2
  · intro b
    constructor
    · rintro (hb | hb)
      · obtain ⟨i, hi, hb⟩ := (g3 b).1 hb
        exact ⟨i, by omega, by show (if i = ps.length then Fk else Fs i) b; rw [if_neg (by omega)]; exact hb⟩
      · exact ⟨ps.length, by omega, by simpa using hb⟩
    · rintro ⟨i, hi, hb⟩
      by_cases e : i = ps.length
      · rw [if_pos e] at hb
        exact .inr hb
      · rw [if_neg e] at hb
        exact .inl ((g3 b).2 ⟨i, by omega, hb⟩)
end
/-- Replicas, and clients, as rows of things. -/
def RepQ (R : Nat) : Thing := fun i p F w => RepA R i p F w
theorem RepQ.ok (R : Nat) : (RepQ R).Ok := ⟨fun i p F => RepA.st, fun i p F w h => RepA.lt h⟩
def CliA (p : Nat) (F : Nat → Prop) (w : World) : Prop := OneT [tmCli] p F w
def CliQ : Thing := fun _ p F w => CliA p F w
theorem CliQ.ok : CliQ.Ok := ⟨fun i p F => OneT.st, fun i p F w h => OneT.lt h⟩
def ptrs (ps : List Nat) : List Sv := ps.map fun p => ⟨.pointer (some ⟨p, 0, none⟩)⟩
theorem ptrs_get {ps : List Nat} {i p : Nat} (h : ps[i]? = some p) : (ptrs ps)[i]? = some ⟨.pointer (some ⟨p, 0, none⟩)⟩ := by simp [ptrs, h]
theorem ptrs_len (ps : List Nat) : (ptrs ps).length = ps.length := by simp [ptrs]
/-! ### Clients -/
theorem cNew {R id : Nat} {σ : Nat → Int} (hR : okR R) (hid : id < 5) (hσ : FactsC σ) (hc : (id : Int) < σ 0) (w : World) :
    Calls Tryz.prog 40 #[confV R σ, .int .i64 id] w fun en w' => ∃ p F, en = .returned (.tuple #[.pointer (some ⟨p, 0, none⟩), .int .i64 0]) ∧ SH Non Non w w' [.P F (CliA p F)] := by
  have hok := List.all_eq_true.1 (List.all_eq_true.1 hCliNew R (okR_mem hR)) id (mem_upTo.2 hid)
  have hk : ∀ q ∈ factsI id, q.1.ev σ = q.2 := by
    intro q hq
    rcases List.mem_cons.1 hq with rfl | hq
    · simp only [BT.ev, IT.ev]
      exact decide_eq_false (by omega)
    · exact hσ q hq
  unfold okCliNew at hok
  split at hok
  · rename_i n S hcc
    split at hok
    · rename_i M hM
      have hargs : RVs ⟨fun _ => none, σ⟩ [.agg (confA R), nI id] [confV R σ, .int .i64 id] := by
        simp only [RVs]
        exact ⟨_, _, rfl, confV_ok ⟨fun _ => none, σ⟩ R, _, _, rfl, by simp only [nI, RV]; rfl, rfl⟩
      refine Calls.mono (((evOK noneO_ok) Non w _ _ _ _ hcc).2 _ _ w hargs (RW.start Non w σ 0 (factsI id) hk)) ?_
      rintro en w' ⟨o, ho, B, hB, hen, HW⟩
      cases List.mem_singleton.1 ho
      obtain ⟨v, rfl, hv⟩ := hen.ret rfl
      simp only [RV, RVs] at hv
      obtain ⟨vs, rfl, v1, t1, rfl, ⟨b, p, z, hb, rfl⟩, v2, t2, rfl, rfl, rfl⟩ := hv
      have hp := HW.zero n b p z hb
      subst hp
      obtain ⟨h1, h2⟩ := matchT_ok HW ⟨z, hb⟩ hM
      refine ⟨b, blksOf B M.nm, rfl, HW.ext, Val.one ⟨⟨_, List.mem_singleton.2 rfl, h1⟩, OneT.st, h1.lt, ?_, ?_⟩⟩
      · rintro _ x ⟨q, hq, y, z', hx⟩
        exact (HW.above _ x y z' hx).1
      · rintro x ⟨q, hq, y, z', hx⟩
        exact .inl (HW.above _ x y z' hx).1
    · cases hok
  · cases hok
theorem cStep {p : Nat} {F : Nat → Prop} {w : World} (now : Int) (h : CliA p F w) :
    Calls Tryz.prog 144 #[.pointer (some ⟨p, 0, none⟩), .int .i64 now] w fun en w' => ∃ F', en = .returned (.slice none 0 0) ∧ SH F Non w w' [.P F' (CliA p F')] := by
  obtain ⟨T, hT, ⟨nm, σ, hN⟩⟩ := h
  cases List.mem_singleton.1 hT
  have hW := hN.rw (σ' := sig σ now 0) sig_lt [] (fun q hq => by cases hq)
  obtain ⟨_, _, _, _, _, z, hz⟩ := hN
  have hargs : RVs ⟨nm, sig σ now 0⟩ [.ptr 0 0, sy 100] [.pointer (some ⟨p, 0, none⟩), .int .i64 now] := by
    simp only [RVs, RV, sy, IT.ev]
    exact ⟨_, _, rfl, ⟨p, 0, z, hz, rfl⟩, _, _, rfl, by simp [sig], rfl⟩
  refine Calls.mono (chkV_ok (Ts := [tmCli]) (evOK noneO_ok) hCliStep (List.mem_singleton.2 rfl) hW hargs ⟨z, hz⟩) ?_
  rintro en w' ⟨v, F', B, rfl, hv, K⟩
  simp only [nl, RV] at hv
  exact ⟨F', by rw [hv], K⟩
def rq0 : Value := .agg #[.int .i64 0, .int .i64 0, .int .i64 0, .int .i64 0, .string (ByteArray.mk #[])]
theorem cOut {p : Nat} {F : Nat → Prop} {w : World} (h : CliA p F w) :
    Calls Tryz.prog 143 #[.pointer (some ⟨p, 0, none⟩)] w fun en w' => ∃ F', en = .returned (.tuple #[rq0, .bool false]) ∧ SH F Non w w' [.P F' (CliA p F')] := by
  obtain ⟨T, hT, ⟨nm, σ, hN⟩⟩ := h
  cases List.mem_singleton.1 hT
  have hW := hN.rw (σ' := σ) (fun _ _ => rfl) [] (fun q hq => by cases hq)
  obtain ⟨_, _, _, _, _, z, hz⟩ := hN
  have hargs : RVs ⟨nm, σ⟩ [.ptr 0 0] [.pointer (some ⟨p, 0, none⟩)] := by
    simp only [RVs, RV]
    exact ⟨_, _, rfl, ⟨p, 0, z, hz, rfl⟩, rfl⟩
  refine Calls.mono (chkV_ok (Ts := [tmCli]) (evOK noneO_ok) hCliOut (List.mem_singleton.2 rfl) hW hargs ⟨z, hz⟩) ?_
  rintro en w' ⟨v, F', B, rfl, hv, K⟩
  simp only [req0, n0, emptyS, RV, RVs] at hv
  obtain ⟨vs, rfl, _, _, rfl, ⟨us, rfl, _, _, rfl, rfl, _, _, rfl, rfl, _, _, rfl, rfl, _, _, rfl, rfl, _, _, rfl, rfl, rfl⟩, _, _, rfl, rfl, rfl⟩ := hv
  exact ⟨F', rfl, K⟩
theorem cBusy {p : Nat} {F : Nat → Prop} {w : World} (h : CliA p F w) : w.cell? ⟨p, 16, none⟩ = some (.bool false) := by
  obtain ⟨T, hT, ⟨nm, σ, hN⟩⟩ := h
  cases List.mem_singleton.1 hT
  have hW := hN.rw (σ' := σ) (fun _ _ => rfl) [] (fun q hq => by cases hq)
  obtain ⟨_, _, _, _, _, z, hz⟩ := hN
  obtain ⟨b, q, y, v, h1, h2, h3⟩ := hW.cell (n := 0) (o := 16) (a := .bool false) (cs := [sy 0, sy 1, sy 2, sy 3, sy 4, sy 5, sy 6, sy 7, sy 8, sy 9, sy 10, sy 11, n0, nl, n0, nl, .bool false, n0, n0, n0, n0, emptyS, n0, .bool false, n0, n0, sy 12]) (E := 178) rfl rfl
  have e : (⟨nm, σ⟩ : NM) 0 = some (p, 0, z) := hz
  rw [h1] at e
  cases e
  simp only [RV] at h3
  rw [h3] at h2
  simpa using h2
theorem cTake {p : Nat} {F : Nat → Prop} {w : World} {v : Value} (h : CliA p F w) :
    Calls Tryz.prog 147 #[.pointer (some ⟨p, 0, none⟩), v] w fun en w' => en = .returned (.bool false) ∧ w = w' := by
  have hb := cBusy h
  refine calls_of_CW Tryz.func147 rfl Tryz.ntmps147 (Nat.le_of_ble_eq_true rfl) ?_
  simp only [argE, argFrom, Nat.reduceAdd]
  refine CW.seq fun K1 h1 => zr ?_
  refine zg iA (zn h1 ?_); try clear h1
  refine CW.seq (fun K2 h2 => ?_)
  refine CW.seq fun K3 h3 => zr ?_
  refine zg iM ?_
  refine zg (zt (zk (r_eqlP rfl Tryz.underlying85 rfl rfl)) iM) ?_
  refine LW.known (t := 11) (c := false) rfl (by first | rfl | (simp only [zd]; omega) | simp_all) (fun hg1_3 => ?_)
  refine LW.want rfl rfl hg1_3 ?_
  refine zg iM ?_
  refine LW.want rfl rfl hg1_3 ?_
  refine zg iK ?_
  refine LW.want rfl rfl hg1_3 ?_
  refine zg (fA 16) ?_
  refine LW.want rfl rfl hg1_3 ?_
  refine zg (iL (hc := hb)) ?_
  refine LW.want rfl rfl hg1_3 ?_
  refine zg iN ?_
  refine zg (zk (r_pickF rfl rfl hg1_3)) (zc [0, 1, 17] h3 fun σ => zg zm ?_); try clear h3
  refine CW.condT rfl (by first | rfl | (simp only [zd]; omega) | simp_all) ?_
  refine CW.seq fun K4 h4 => zr ?_
  refine zg iA (zn h4 ?_); try clear h4
  refine CW.ret (tR (ret1 Tryz.results147 EV ?_))
  exact ⟨rfl, rfl⟩
end Go.Proofs.YtgmmbdmdimkfjaaGreat
namespace Go.Proofs.YtgmmbdmdimkfjaaGreat
set_option linter.unusedSimpArgs false
set_option linter.unusedVariables false
set_option maxRecDepth 20000
open Go.V Go.RowKit Go.ChangeShapes Go.WideShapes
/-- What a world is made of. -/
structure WS where
  σ : Nat → Int
  vR : Value
  vC : Value
  pc : Nat
  pn : Nat
  vS : Value
  en : Int
  va : Value
  vd : Value
  vk : Value
  rs : List Nat
  cs : List Nat
  gR : Option Nat
  gC : Option Nat
  FR : Nat → Prop
  FC : Nat → Prop
  Fk : Nat → Prop
  ms : List Fl
  lost : Int
  FN : Nat → Prop
  bs : List Bool
  gS : Option Nat
  ga : Option Nat
  gd : Option Nat
  gk : Option Nat
/-- Flights: three bytes of nobody's, or what a replica may send. -/
def FlOK (R : Nat) (ms : List Fl) : Prop := ∀ m ∈ ms, (m.src = -1 ∧ m.bytes.length = 3) ∨ m.bytes ∈ sentB R
structure WS.Ok (s : WS) (R C k j : Nat) : Prop where
  okR : okR R
  facts : FactsC s.σ
  cl : s.σ 0 = C
  c1 : 1 ≤ C
  c5 : C ≤ 5
  rs : s.rs.length = R
  cs : s.cs.length = C
  bs : s.bs.length = R + C
  fl : FlOK R s.ms
  e0 : 0 ≤ s.en
  e1 : s.en ≤ k
  l0 : 0 ≤ s.lost
  l1 : s.lost ≤ 20 * j
def nilS : Sv := ⟨.slice none 0 0⟩
def kindsL (p : Nat) : List Sv := [⟨.func (.func 94) #[.pointer (some ⟨p, 0, none⟩)] #[]⟩, ⟨.func (.func 95) #[.pointer (some ⟨p, 0, none⟩)] #[]⟩, ⟨.func (.func 96) #[.pointer (some ⟨p, 0, none⟩)] #[]⟩, ⟨.func (.func 97) #[.pointer (some ⟨p, 0, none⟩)] #[]⟩, ⟨.func (.func 98) #[.pointer (some ⟨p, 0, none⟩)] #[]⟩, ⟨.func (.func 99) #[.pointer (some ⟨p, 0, none⟩)] #[]⟩, ⟨.func (.func 100) #[.pointer (some ⟨p, 0, none⟩)] #[]⟩, ⟨.func (.func 101) #[.pointer (some ⟨p, 0, none⟩)] #[]⟩, ⟨.func (.func 102) #[.pointer (some ⟨p, 0, none⟩)] #[]⟩]
def WS.cells (s : WS) (R : Nat) : List Value := [.int .i64 R, .int .i64 (s.σ 0), .int .i64 (s.σ 1), .int .i64 (s.σ 2), .int .i64 (s.σ 3), .int .i64 (s.σ 4), .int .i64 (s.σ 5), .int .i64 (s.σ 6), .int .i64 (s.σ 7), .int .i64 (s.σ 8), .int .i64 (s.σ 9), s.vR, s.vC, .pointer (some ⟨s.pc, 0, none⟩), .pointer (some ⟨s.pn, 0, none⟩), s.vS, .int .i64 s.en, s.va, s.vd, s.vk]
def WS.L (s : WS) (R C p : Nat) : List Ch := [.B p 104 (s.cells R),
  .O 60 s.vR (ptrs s.rs) s.gR, .P s.FR (Lst (RepQ R) s.rs s.FR), .O 85 s.vC (ptrs s.cs) s.gC, .P s.FC (Lst CliQ s.cs s.FC), .P s.Fk (ClockA s.pc (R + C) s.Fk), .P s.FN (NetA s.pn s.ms s.lost s.FN),
  .O 4 s.vS s.bs s.gS, .O 63 s.va (List.replicate R nilS) s.ga, .O 74 s.vd (List.replicate C nilS) s.gd, .O 32 s.vk (kindsL p) s.gk]
/-- A world of R replicas, C clients, behind at most k entries; at most 20 j flights are lost. -/
def WorldA (R C p k j : Nat) (F : Nat → Prop) (w : World) : Prop := ∃ s : WS, s.Ok R C k j ∧ ObjA F w (s.L R C p)
theorem WorldA.st {R C p k j : Nat} {F : Nat → Prop} : Ch.St F (WorldA R C p k j F) := fun V w w' ⟨s, h1, h2⟩ e hd => ⟨s, h1, h2.up e hd⟩
theorem WorldA.lt {R C p k j : Nat} {F : Nat → Prop} {w : World} (h : WorldA R C p k j F w) : ∀ b, F b → b < w.heap.size := by
  obtain ⟨_, _, h⟩ := h
  exact h.2
theorem WorldA.mkL {U G : Nat → Prop} {w0 w : World} {L : List Ch} {R C p k j : Nat} (s : WS) (h : s.Ok R C k j) (H : SH U G w0 w (s.L R C p ++ L)) : ∃ F, SH U G w0 w (.P F (WorldA R C p k j F) :: L) :=
  ⟨_, SH.pack (A := WorldA R C p k j (foot (s.L R C p))) H ⟨trivial, trivial, trivial, trivial, trivial, trivial, trivial, trivial, trivial, trivial, trivial, trivial⟩ WorldA.st (fun hh => ⟨s, h, hh⟩)⟩
theorem WorldA.mk {U G : Nat → Prop} {w0 w : World} {R C p k j : Nat} (s : WS) (h : s.Ok R C k j) (H : SH U G w0 w (s.L R C p)) : ∃ F, SH U Non w0 w [.P F (WorldA R C p k j F)] := by
  obtain ⟨F, K⟩ := WorldA.mkL (G := G) (L := []) s h (by rw [List.append_nil]; exact H)
  exact ⟨F, SH.give K (List.Sublist.refl _) ⟨trivial, trivial⟩⟩
theorem isHost_c {R C p k j : Nat} {F : Nat → Prop} (host : Int) (w : World) (h : WorldA R C p k j F w) : Calls Tryz.prog 153 #[.pointer (some ⟨p, 0, none⟩), .int .i64 host] w fun e w' => e = .returned (.bool (decide (0 ≤ host ∧ host < R + C))) ∧ w = w' := by
  obtain ⟨⟨cf, vR, vC, pc, pn, vS, en, va, vd, vk, rs, cs, gR, gC, FR, FC, Fk, ms, lost, FN, bs, gS, ga, gd, gk⟩, hok, hA⟩ := h
  have H := SH.obj (G := Any) hA
  have hbs : bs.length = R + C := hok.bs
  dsimp only [WS.L, WS.cells] at H
  refine calls_of_CW Tryz.func153 rfl Tryz.ntmps153 (Nat.le_of_ble_eq_true rfl) ?_
  simp only [argE, argFrom, Nat.reduceAdd]
  refine CW.seq fun K1 h1 => zr ?_
  refine zg iA (zn h1 ?_); try clear h1
  refine CW.seq fun K2 h2 => zr ?_
  refine zg iM ?_
  refine zg (zt (zk (r_neqP rfl Tryz.underlying28 rfl rfl)) iM) ?_
  refine' LW.grpAnd (n := 3) (ts := [0, 1, 11]) (d := 10) (tj := 7) rfl (fun hg1_3 => ?_) (fun hg1_3 => ?_) (fun σ => ?_)
  rotate_left
  · simp only [List.take_succ_cons, List.take_zero]
    have hg1_3P := hg1_3
    try simp only [zd] at hg1_3P
    refine LW.want rfl rfl hg1_3 ?_
    refine zg iM ?_
    refine LW.want rfl rfl hg1_3 ?_
    refine zg ige ?_
    refine zg (zk (r_pickT rfl rfl hg1_3)) ?_
    refine LW.nil (thenE_norm ⟨rfl, rfl, rfl⟩)
  · simp only [List.take_succ_cons, List.take_zero]
    refine LW.skip rfl (fun _ e => by cases e; decide) rfl hg1_3 ?_
    refine LW.skip rfl (fun _ e => by cases e; decide) rfl hg1_3 ?_
    refine zg (zk (r_pickF rfl rfl hg1_3)) ?_
    refine LW.nil (thenE_norm ⟨rfl, rfl, rfl⟩)
  simp only [setL, keepE, upd_get, ev, Nat.reduceEqDiff, ↓reduceIte]; simp only [List.drop_succ_cons, List.drop_zero]
  refine zg iM ?_
  refine' LW.grpAnd (n := 8) (ts := []) (d := 19) (tj := 11) rfl (fun hg1_7 => ?_) (fun hg1_7 => ?_) (fun σ => ?_)
  rotate_left
  · simp only [List.take_succ_cons, List.take_zero]
    have hg1_7P := hg1_7
    try simp only [zd] at hg1_7P
    refine LW.want rfl rfl hg1_7 ?_
    refine zg iM ?_
    refine LW.want rfl rfl hg1_7 ?_
    refine zg iM ?_
    refine LW.want rfl rfl hg1_7 ?_
    refine zg iK ?_
    refine LW.want rfl rfl hg1_7 ?_
    refine zg (fA 15) ?_
    refine LW.want rfl rfl hg1_7 ?_
    refine zg iL ?_
    refine LW.want rfl rfl hg1_7 ?_
    refine zg iVV ?_
    refine LW.want rfl rfl hg1_7 ?_
    refine zg ilt ?_
    refine zg (zk (r_pickT rfl rfl hg1_7)) ?_
    refine LW.nil (thenE_norm ⟨rfl, rfl, rfl⟩)
  · simp only [List.take_succ_cons, List.take_zero]
    refine LW.skip rfl (fun _ e => by cases e; decide) rfl hg1_7 ?_
    refine LW.skip rfl (fun _ e => by cases e; decide) rfl hg1_7 ?_
    refine LW.skip rfl (fun _ e => by cases e; decide) rfl hg1_7 ?_
    refine LW.skip rfl (fun _ e => by cases e; decide) rfl hg1_7 ?_
    refine LW.skip rfl (fun _ e => by cases e; decide) rfl hg1_7 ?_
    refine LW.skip rfl (fun _ e => by cases e; decide) rfl hg1_7 ?_
    refine LW.skip rfl (fun _ e => by cases e; decide) rfl hg1_7 ?_
    refine zg (zk (r_pickF rfl rfl hg1_7)) ?_
    refine LW.nil (thenE_norm ⟨rfl, rfl, rfl⟩)
  simp only [setL, keepE, upd_get, ev, Nat.reduceEqDiff, ↓reduceIte]; simp only [List.drop_succ_cons, List.drop_zero]
  refine zg iA (zn h2 ?_); try clear h2
  refine CW.ret (ret1 Tryz.results153 EV ?_)
  exact ⟨by congr 2; rw [hbs]; simp, rfl⟩
theorem there_c {R C p k j : Nat} {F : Nat → Prop} (host : Int) (w : World) (h : WorldA R C p k j F w) : Calls Tryz.prog 139 #[.pointer (some ⟨p, 0, none⟩), .int .i64 host] w fun e w' => ∃ x, (x = 0 → 0 ≤ host ∧ host < R + C) ∧ e = .returned (.int .i64 x) ∧ w = w' := by
  have h' := h
  obtain ⟨⟨cf, vR, vC, pc, pn, vS, en, va, vd, vk, rs, cs, gR, gC, FR, FC, Fk, ms, lost, FN, bs, gS, ga, gd, gk⟩, hok, hA⟩ := h
  have H := SH.obj (G := Any) hA
  have hbs : bs.length = R + C := hok.bs
  dsimp only [WS.L, WS.cells] at H
  refine calls_of_CW Tryz.func139 rfl Tryz.ntmps139 (Nat.le_of_ble_eq_true rfl) ?_
  simp only [argE, argFrom, Nat.reduceAdd]
  refine CW.seq fun K1 h1 => zr ?_
  refine zg iA (zn h1 ?_); try clear h1
  refine CW.seq (fun K2 h2 => ?_)
  refine CW.block ?_
  refine CW.seq fun K3 h3 => zr ?_
  refine zg (zt iM iM) ?_
  refine r_call rfl Tryz.call153 HS (isHost_c _ _ h') ?_
  rintro _ _ ⟨rfl, rfl⟩
  refine ⟨_, rfl, ?_⟩
  refine zg (zt iN iA) (zn h3 ?_); try clear h3
  refine CW.cond rfl (fun hc1 => ?_) (fun hc1 => ?_)
  · try simp only [zb] at hc1
    refine CW.seq fun K4 h4 => zr ?_
    refine zg iA (zn h4 ?_); try clear h4
    refine CW.ret (bR (tR (ret1 Tryz.results139 EV ?_)))
    exact ⟨_, fun h => absurd h (by decide), rfl, rfl⟩
  · try simp only [zb] at hc1
    refine CW.seq (fun K5 h5 => ?_)
    obtain ⟨x, hx⟩ := get_of_lt (show host.toNat < bs.length by omega)
    refine CW.region ?_
    refine zg (zt iM (zt iK (zt (fA 15) (zt iL (zt iM (zt iI (zt iL iA))))))) (zc [10] h5 fun σ => zg zm ?_); try clear h5
    refine CW.cond rfl (fun hc2 => ?_) (fun hc2 => ?_)
    · try simp only [zb] at hc2
      refine CW.seq fun K6 h6 => zr ?_
      refine zg iA (zn h6 ?_); try clear h6
      refine CW.ret (bR (tR (ret1 Tryz.results139 EV ?_)))
      exact ⟨_, fun h => absurd h (by decide), rfl, rfl⟩
    · try simp only [zb] at hc2
      refine CW.skip ?_
      refine blockE_norm ?_
      refine thenE_norm (h2 _ _ ?_); clear h2; try clear K2
      refine CW.seq fun K7 h7 => zr ?_
      refine zg iA (zn h7 ?_); try clear h7
      refine CW.ret (ret1 Tryz.results139 EV ?_)
      exact ⟨_, fun _ => by omega, rfl, rfl⟩
end Go.Proofs.YtgmmbdmdimkfjaaGreat
