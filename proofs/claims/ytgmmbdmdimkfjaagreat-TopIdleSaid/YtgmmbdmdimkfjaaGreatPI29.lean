/-
  The walks of layer 26's functions, the second part: what is put, looked at, taken; The walks of the clocks
-/
import Derived.Test.YtgmmbdmdimkfjaaGreatPI28
import Derived.Test.YtgmmbdmdimkfjaaGreatPI05
namespace Go.Proofs.YtgmmbdmdimkfjaaGreat
set_option linter.unusedSimpArgs false
set_option linter.unusedVariables false
set_option maxRecDepth 20000
open Go.V Go.RowKit
theorem Len_c {p : Nat} {ms : List Fl} {lost : Int} {FN : Nat → Prop} (w : World) (hN : NetA p ms lost FN w) :
    Calls Tryz.prog 85 #[.pointer (some ⟨p, 0, none⟩)] w fun e w' => e = .returned (.int .i64 ms.length) ∧ w = w' := by
  obtain ⟨hsm, v, raws, g, F, hA⟩ := hN
  have H := SH.obj (G := Any) hA
  have hl : raws.length = ms.length := All2.len (SH.prop H (i := 2) rfl)
  refine calls_of_CW Tryz.func85 rfl Tryz.ntmps85 (Nat.le_of_ble_eq_true rfl) ?_
  simp only [argE, argFrom, Nat.reduceAdd]
  refine CW.seq fun K1 h1 => zr ?_
  refine zg iA (zn h1 ?_); try clear h1
  refine CW.seq (fun K2 h2 => ?_)
  refine CW.seq fun K3 h3 => zr ?_
  refine zg iM ?_
  refine zg (zk (r_eqlP rfl Tryz.underlying95 rfl rfl)) (zn h3 ?_); try clear h3
  refine CW.condF rfl (by first | rfl | (simp only [zd]; omega) | simp_all) ?_
  refine CW.skip ?_
  refine thenE_norm (h2 _ _ ?_); clear h2; try clear K2
  refine CW.seq fun K4 h4 => zr ?_
  refine zg (zt iM (zt iK (zt (fA 0) (zt iL (zt iVV iA))))) (zc [2] h4 fun σ => zg zm ?_); try clear h4
  refine CW.ret (ret1 Tryz.results85 EV ?_)
  rw [hl]
  exact ⟨rfl, rfl⟩
theorem NetA.upx {p : Nat} {ms : List Fl} {lost : Int} {FN : Nat → Prop} {w w' : World} (h : NetA p ms lost FN w) (e : Ext0 w w') : NetA p ms lost FN w' := net_st Non w w' h e (fun _ _ q => q)
theorem kept_c {F : Nat → Prop} (a : Flight) {xs : List UInt8} (w : World) (hb : Rs F w a.bytes xs) (hn : xs.length ≤ 1000000) :
    Calls Tryz.prog 135 #[agg a] w fun e w' => ∃ v' g, e = .returned (agg (⟨a.src, a.dst, a.born, v'⟩ : Flight)) ∧ SH Non Non w w' [.O 5 v' xs g] := by
  have H := (SH.start w).arg hb
  refine calls_of_CW Tryz.func135 rfl Tryz.ntmps135 (Nat.le_of_ble_eq_true rfl) ?_
  simp only [argE, argFrom, Nat.reduceAdd]
  refine CW.seq fun K1 h1 => zr ?_
  refine s_box H rfl EV rfl ?_
  clear H
  intro b0_0 w0_0 H
  try dsimp only [replC, List.cons_append, List.nil_append, List.append_nil, agg, cellsL, Value.cells, List.toList_toArray, List.set_cons_zero, List.set_cons_succ, spliceL, List.take_succ_cons, List.take_zero, List.drop_succ_cons, List.drop_zero, List.length_cons, List.length_nil, Nat.reduceAdd, Row.cells, Flight.L] at H
  refine s_alloc (cs := [.int .i64 0, .int .i64 0, .int .i64 0, .slice none 0 0]) H rfl Tryz.zeroValue180 rfl ?_
  clear H
  intro b0_1 w0_1 H
  try dsimp only [replC, List.cons_append, List.nil_append, List.append_nil, agg, cellsL, Value.cells, List.toList_toArray, List.set_cons_zero, List.set_cons_succ, spliceL, List.take_succ_cons, List.take_zero, List.drop_succ_cons, List.drop_zero, List.length_cons, List.length_nil, Nat.reduceAdd, Row.cells, Flight.L] at H
  refine LW.nil ?_
  refine thenE_norm (h1 _ _ ?_); clear h1; try clear K1
  refine CW.seq fun K2 h2 => zr ?_
  refine zg (zt (fA 3) iL) ?_
  refine r_call rfl Tryz.call194 HS (CloneB_c _ RS (by first | omega | (simp only [List.length_append, List.length_cons, List.length_nil]; omega) | (simp; omega))) ?_
  rintro _ w1_2 ⟨v1_2, g1_2, rfl, K⟩
  refine ⟨_, rfl, ?_⟩
  replace H := SH.call H K
  clear K
  try dsimp only [replC, List.cons_append, List.nil_append, List.append_nil] at H
  refine zg (fA 3) ?_
  refine s_store H Tryz.sizeOf22 rfl EV (by first | rfl | assumption | exact Rs.oneC RS | (simp only [List.all_cons, List.all_nil, Bool.and_true, Bool.and_eq_true, Row.cells, Flight.L]; (repeat' constructor) <;> first | rfl | assumption | exact Rs.oneC RS)) AT (by first | (simp; done) | decide | omega) ?_
  clear H
  intro w1_4 H
  try dsimp only [replC, List.cons_append, List.nil_append, List.append_nil, agg, cellsL, Value.cells, List.toList_toArray, List.set_cons_zero, List.set_cons_succ, spliceL, List.take_succ_cons, List.take_zero, List.drop_succ_cons, List.drop_zero, List.length_cons, List.length_nil, Nat.reduceAdd, Row.cells, Flight.L] at H
  refine LW.nil ?_
  refine thenE_norm (h2 _ _ ?_); clear h2; try clear K2
  refine CW.seq fun K3 h3 => zr ?_
  refine zg (zk (r_loadA rfl Tryz.isAgg180 Tryz.sizeOf180 rfl (by first | exact SH.cells H AT) (by rfl))) ?_
  refine s_storeA H Tryz.sizeOf180 rfl EV (by simp only [cellsL, agg, List.toList_toArray, Row.cells, Flight.L] <;> rfl) (by rfl) (by first | rfl | assumption | exact Rs.oneC RS | (simp only [List.all_cons, List.all_nil, Bool.and_true, Bool.and_eq_true, Row.cells, Flight.L]; (repeat' constructor) <;> first | rfl | assumption | exact Rs.oneC RS)) AT (by first | (simp; done) | decide | (show _ ≤ _; decide)) ?_
  clear H
  intro w2_1 H
  try dsimp only [replC, List.cons_append, List.nil_append, List.append_nil, agg, cellsL, Value.cells, List.toList_toArray, List.set_cons_zero, List.set_cons_succ, spliceL, List.take_succ_cons, List.take_zero, List.drop_succ_cons, List.drop_zero, List.length_cons, List.length_nil, Nat.reduceAdd, Row.cells, Flight.L] at H
  refine LW.nil ?_
  refine thenE_norm ?_
  refine cut (K := K3) [2] (fun σ => ?_)
  refine zg zm ?_
  refine h3 _ _ ?_; clear h3; try clear K3
  refine CW.ret (retC1 Tryz.results135 EV Tryz.isAgg180 Tryz.sizeOf180 (by exact SH.cells H AT) (by rfl) ?_)
  exact ⟨_, _, rfl, (SH.give (SH.sel H [3] (by decide) rfl) (List.Sublist.refl _) (by repeat first | exact trivial | refine ⟨trivial, ?_⟩))⟩
/-- What a net is behind a flight that is put in, how many were lost, and the code. -/
def netPut (ms : List Fl) (lost : Int) (m : Fl) : List Fl × Int × Int :=
  if 2048 < m.bytes.length then (ms, lost, 3) else if 600 ≤ ms.length then (ms, lost + 1, 5) else (ms ++ [m], lost, 0)
set_option maxHeartbeats 1000000 in
theorem Put_c {F : Nat → Prop} {p : Nat} {ms : List Fl} {lost : Int} {FN : Nat → Prop} (a : Flight) {xs : List UInt8} (w : World) (hN : NetA p ms lost FN w) (hb : Rs F w a.bytes xs) (hd : ∀ b, F b → ¬ FN b) (hl0 : 0 ≤ lost) (hl1 : lost < 1000000) :
    Calls Tryz.prog 155 #[.pointer (some ⟨p, 0, none⟩), agg a] w fun e w' => ∃ FN', e = .returned (.int .i64 (netPut ms lost ⟨a.src, a.dst, a.born, xs⟩).2.2) ∧
      SH FN Non w w' [.P FN' (NetA p (netPut ms lost ⟨a.src, a.dst, a.born, xs⟩).1 (netPut ms lost ⟨a.src, a.dst, a.born, xs⟩).2.1 FN')] := by
  obtain ⟨hsm, v, raws, g, F1, hA⟩ := hN
  have H := SH.argU (SH.obj (G := Any) hA) hb hd
  have hl : raws.length = ms.length := All2.len (SH.prop H (i := 2) rfl)
  refine calls_of_CW Tryz.func155 rfl Tryz.ntmps155 (Nat.le_of_ble_eq_true rfl) ?_
  simp only [argE, argFrom, Nat.reduceAdd]
  refine CW.seq fun K1 h1 => zr ?_
  refine s_box H rfl EV rfl ?_
  clear H
  intro b0_0 w0_0 H
  try dsimp only [replC, List.cons_append, List.nil_append, List.append_nil, agg, cellsL, Value.cells, List.toList_toArray, List.set_cons_zero, List.set_cons_succ, spliceL, List.take_succ_cons, List.take_zero, List.drop_succ_cons, List.drop_zero, List.length_cons, List.length_nil, Nat.reduceAdd, Row.cells, Flight.L] at H
  refine zg iA (zn h1 ?_); try clear h1
  refine CW.seq (fun K2 h2 => ?_)
  refine CW.block ?_
  refine CW.seq fun K3 h3 => zr ?_
  refine zg iM ?_
  refine zg (zt (zk (r_eqlP rfl Tryz.underlying95 rfl rfl)) iA) (zn h3 ?_); try clear h3
  refine CW.condF rfl (by first | rfl | (simp only [zd]; omega) | simp_all) ?_
  refine CW.seq fun K4 h4 => zr ?_
  refine zg (zt (fA 3) (zt iL (zt iVV (zt igt iA)))) (zc [0, 3, 8] h4 fun σ => zg zm ?_); try clear h4
  refine CW.cond rfl (fun hc2 => ?_) (fun hc2 => ?_)
  · try simp only [zb] at hc2
    refine CW.seq fun K5 h5 => zr ?_
    refine zg iA (zn h5 ?_); try clear h5
    refine CW.ret (bR (tR (ret1 Tryz.results155 EV ?_)))
    rw [netPut, if_pos (by show 2048 < xs.length; omega)]
    obtain ⟨FN', K⟩ := NetA.mk hsm (SH.sel H [0, 1, 2] (by decide) (by rfl))
    exact ⟨_, rfl, K⟩
  · try simp only [zb] at hc2
    refine CW.seq fun K6 h6 => zr ?_
    refine zg (zt iM (zt iK (zt (fA 0) (zt iL (zt iVV (zt ige iA)))))) (zn h6 ?_); try clear h6
    refine CW.cond rfl (fun hc3 => ?_) (fun hc3 => ?_)
    · try simp only [zb] at hc3
      refine CW.seq fun K7 h7 => zr ?_
      refine zg (zt iM (zt iK (zt (fA 1) (zt iL (zt iP (zt iK (fA 1))))))) ?_
      refine s_store H Tryz.sizeOf3 rfl EV (by first | rfl | assumption | exact Rs.oneC RS | (simp only [List.all_cons, List.all_nil, Bool.and_true, Bool.and_eq_true, Row.cells, Flight.L]; (repeat' constructor) <;> first | rfl | assumption | exact Rs.oneC RS)) AT (by first | (simp; done) | decide | omega) ?_
      clear H
      intro w6_7 H
      try dsimp only [replC, List.cons_append, List.nil_append, List.append_nil, agg, cellsL, Value.cells, List.toList_toArray, List.set_cons_zero, List.set_cons_succ, spliceL, List.take_succ_cons, List.take_zero, List.drop_succ_cons, List.drop_zero, List.length_cons, List.length_nil, Nat.reduceAdd, Row.cells, Flight.L] at H
      refine LW.nil ?_
      refine thenE_norm ?_
      refine cut (K := K7) [] (fun σ => ?_)
      refine zg zm ?_
      refine h7 _ _ ?_; clear h7; try clear K7
      refine CW.seq fun K8 h8 => zr ?_
      refine zg iA (zn h8 ?_); try clear h8
      refine CW.ret (bR (tR (ret1 Tryz.results155 EV ?_)))
      rw [netPut, if_neg (by show ¬ 2048 < xs.length; omega), if_pos (by omega)]
      obtain ⟨FN', K⟩ := NetA.mk hsm (SH.sel H [0, 1, 2] (by decide) (by rfl))
      exact ⟨_, rfl, K⟩
    · try simp only [zb] at hc3
      refine CW.skip ?_
      refine blockE_norm ?_
      refine thenE_norm (h2 _ _ ?_); clear h2; try clear K2
      refine CW.seq (fun K9 h9 => ?_)
      refine CW.drawP [0, 4] [11] H (by dsimp only [pickC, nthC] <;> rfl) SB (by kernel_rfl) rfl ?_
      clear H
      intro w8d H
      refine DL.take (i := 0) [0, 9, 10, 11] rfl (by kernel_rfl) (by kernel_rfl) (by kernel_rfl) (by kernel_rfl) rfl rfl (fun u H => x_move ) (SH.sub H SB) ?_
      refine DL.take (i := 1) [1, 2, 3, 4, 8, 9, 10, 11] rfl (by kernel_rfl) (by kernel_rfl) (by kernel_rfl) (by kernel_rfl) rfl rfl (fun u H => x_move ) (SH.sub H SB) ?_
      refine DL.take (i := 2) [2, 3, 4, 8, 9, 10, 11] rfl (by kernel_rfl) (by kernel_rfl) (by kernel_rfl) (by kernel_rfl) rfl rfl (fun u H => x_nilCheck rfl) (SH.sub H SB) ?_
      refine DL.take (i := 3) [3, 4, 8, 9, 10, 11] rfl (by kernel_rfl) (by kernel_rfl) (by kernel_rfl) (by kernel_rfl) rfl rfl (fun u H => x_fieldAddrO Tryz.underlying192 rfl Tryz.sizeOf90 (by decide) (show _ = 0 from rfl) rfl) (SH.sub H SB) ?_
      refine DL.take (i := 4) [4, 8, 9, 10, 11] rfl (by kernel_rfl) (by kernel_rfl) (by kernel_rfl) (by kernel_rfl) rfl rfl (fun u H => x_load Tryz.isAgg90 rfl (by first | exact SH.cellB H AT (by rfl) | exact SH.cellI H AT (by rfl) | assumption)) (SH.sub H SB) ?_
      refine DL.take (i := 5) [5, 6, 7, 8, 9, 10, 11] rfl (by kernel_rfl) (by kernel_rfl) (by kernel_rfl) (by kernel_rfl) rfl rfl (fun u H => x_loadA Tryz.isAgg180 Tryz.sizeOf180 rfl (by first | exact SH.cells H AT) (by rfl)) (SH.sub H SB) ?_
      refine DL.one (i := 6) (by kernel_rfl) rfl rfl ?_
      refine r_call rfl Tryz.call135 HS (kept_c ⟨_, _, _, _⟩ _ RS (by first | omega | (simp only [List.length_append, List.length_cons, List.length_nil]; omega) | (simp; omega))) ?_
      rintro _ w8_6 ⟨v8_6, g8_6, rfl, K⟩
      refine ⟨_, rfl, ?_⟩
      replace H := SH.call H K
      clear K
      try dsimp only [replC, List.cons_append, List.nil_append, List.append_nil] at H
      refine LW.nil (thenE_norm ⟨fun _ => (SH.sub H SB), ?_⟩)
      refine DL.one (i := 7) (by kernel_rfl) rfl rfl ?_
      refine r_buildSliceA (vs := [_]) rfl Tryz.underlying90 Tryz.sizeOf180 Tryz.zeroValue180 rfl rfl rfl rfl BN rfl (by intro v hv; simp only [List.mem_cons, List.not_mem_nil, or_false] at hv; rcases hv with rfl <;> rfl) ?_
      intro b8_7 w8_7 hb8_7 hs8_7 hE8_7 hB8_7
      replace H := SH.call H (SH.fromB hE8_7 hb8_7 hs8_7 hB8_7)
      clear hb8_7 hs8_7 hE8_7 hB8_7
      try dsimp only [replC, List.cons_append, List.nil_append, List.append_nil, agg, cellsL, Value.cells, List.toList_toArray, List.set_cons_zero, List.set_cons_succ, spliceL, List.take_succ_cons, List.take_zero, List.drop_succ_cons, List.drop_zero, List.length_cons, List.length_nil, Nat.reduceAdd, Row.cells, Flight.L] at H
      replace H := SH.row (b := b8_7) (xs := ([⟨_, _, _, _⟩] : List Flight)) (n := 1) (cap := 1) H AT (by simp only [flat, List.flatMap_cons, List.flatMap_nil, cellsL, agg, List.append_nil, List.cons_append, List.nil_append, List.toList_toArray, Row.cells, Flight.L] <;> rfl) (by intro x hx; first | rfl | (simp at hx; done) | (simp only [List.mem_cons, List.not_mem_nil, or_false] at hx; rcases hx with rfl <;> first | rfl | exact (by first | rfl | assumption | exact Rs.oneC RS | (simp only [List.all_cons, List.all_nil, Bool.and_true, Bool.and_eq_true, Row.cells, Flight.L]; (repeat' constructor) <;> first | rfl | assumption | exact Rs.oneC RS)))) (by rfl) rfl (by decide)
      try dsimp only [replC, List.cons_append, List.nil_append, List.append_nil, agg, cellsL, Value.cells, List.toList_toArray, List.set_cons_zero, List.set_cons_succ, spliceL, List.take_succ_cons, List.take_zero, List.drop_succ_cons, List.drop_zero, List.length_cons, List.length_nil, Nat.reduceAdd, Row.cells, Flight.L] at H
      refine LW.nil (thenE_norm ⟨fun _ => (SH.sub H SB), ?_⟩)
      refine DL.one (i := 8) (by kernel_rfl) rfl rfl ?_
      first
        | refine s_append H rfl Tryz.underlying90 Tryz.underlying90 Tryz.type180 rfl EV EV AT RS (by rfl) (by rfl) (by first | omega | (simp only [Tryz.t180, List.length_append, List.length_cons, List.length_nil, List.length_map, maxLen]; omega) | (simp [Tryz.t180, maxLen]; omega)) (by first | omega | (simp only [Tryz.t180, List.length_append, List.length_cons, List.length_nil, List.length_map, maxLen]; omega) | (simp [Tryz.t180, maxLen]; omega)) ?_
        | refine s_appendNil H rfl Tryz.underlying90 Tryz.underlying90 Tryz.type180 rfl rfl EV RS (by rfl) (by rfl) (by first | omega | (simp only [Tryz.t180, List.length_append, List.length_cons, List.length_nil, List.length_map, maxLen]; omega) | (simp [Tryz.t180, maxLen]; omega)) ?_
      clear H
      intro v8_8 w8_8 g8_8 H hN8_8
      try dsimp only [replC, List.cons_append, List.nil_append, List.append_nil] at H
      refine LW.nil (thenE_norm ⟨fun _ => (SH.sub H SB), ?_⟩)
      refine DL.take (i := 9) [9, 10, 11] rfl (by kernel_rfl) (by kernel_rfl) (by kernel_rfl) (by kernel_rfl) rfl rfl (fun u H => x_nilCheck rfl) (SH.sub H SB) ?_
      refine DL.take (i := 10) [10, 11] rfl (by kernel_rfl) (by kernel_rfl) (by kernel_rfl) (by kernel_rfl) rfl rfl (fun u H => x_fieldAddrO Tryz.underlying192 rfl Tryz.sizeOf90 (by decide) (show _ = 0 from rfl) rfl) (SH.sub H SB) ?_
      refine DL.one (i := 11) (by kernel_rfl) rfl rfl ?_
      refine s_store H Tryz.sizeOf90 rfl EV (by first | rfl | assumption | exact Rs.oneC RS | (simp only [List.all_cons, List.all_nil, Bool.and_true, Bool.and_eq_true, Row.cells, Flight.L]; (repeat' constructor) <;> first | rfl | assumption | exact Rs.oneC RS)) AT (by first | (simp; done) | decide | omega) ?_
      clear H
      intro w8_11 H
      try dsimp only [replC, List.cons_append, List.nil_append, List.append_nil, agg, cellsL, Value.cells, List.toList_toArray, List.set_cons_zero, List.set_cons_succ, spliceL, List.take_succ_cons, List.take_zero, List.drop_succ_cons, List.drop_zero, List.length_cons, List.length_nil, Nat.reduceAdd, Row.cells, Flight.L] at H
      refine LW.nil (thenE_norm ⟨fun h => Bool.noConfusion (show true = false from h), ?_⟩)
      refine DL.done (by kernel_rfl) ?_
      refine thenE_norm ?_
      refine cut (K := K9) [] (fun σ => ?_)
      refine zg zm ?_
      refine h9 _ _ ?_; clear h9; try clear K9
      refine CW.seq fun K10 h10 => zr ?_
      refine zg iA (zn h10 ?_); try clear h10
      refine CW.ret (ret1 Tryz.results155 EV ?_)
      rw [netPut, if_neg (by show ¬ 2048 < xs.length; omega), if_neg (by omega)]
      have H2 := SH.absorb (A' := FlsA _ (raws ++ [⟨a.src, a.dst, a.born, v8_6⟩]) (ms ++ [⟨a.src, a.dst, a.born, xs⟩])) (SH.sel H [2, 5, 0, 1] (by decide) rfl) trivial fls_st (fun h k => All2.snoc (FlsA.mono h (fun b hb => .inl hb)) ⟨rfl, rfl, rfl, (Ow.rs k).mono fun b _ hb => .inr hb⟩)
      obtain ⟨FN', K⟩ := NetA.mk (lost := lost) (fun m hm => (List.mem_append.1 hm).elim (hsm m) (fun h => by rw [List.mem_singleton] at h; subst h; show xs.length ≤ 2048; omega)) (SH.sel H2 [1, 2, 0] (by decide) rfl)
      exact ⟨_, rfl, K⟩
/-- The flight at a place, if there is one. -/
def netAt (ms : List Fl) (i : Int) : Fl × Bool := if 0 ≤ i ∧ i < ms.length then (ms.getD i.toNat ⟨0, 0, 0, []⟩, true) else (⟨0, 0, 0, []⟩, false)
theorem netAt_in {ms : List Fl} {i : Int} {m : Fl} (h0 : 0 ≤ i) (h : ms[i.toNat]? = some m) : netAt ms i = (m, true) := by
  have hl := lt_of_get h
  rw [netAt, if_pos ⟨h0, by omega⟩, List.getD_eq_getElem?_getD, h]; rfl
theorem Look_c {p : Nat} {ms : List Fl} {lost : Int} {FN : Nat → Prop} (i : Int) (w : World) (hN : NetA p ms lost FN w) :
    Calls Tryz.prog 86 #[.pointer (some ⟨p, 0, none⟩), .int .i64 i] w fun e w' => ∃ v g, e = .returned (.tuple #[agg (⟨(netAt ms i).1.src, (netAt ms i).1.dst, (netAt ms i).1.born, v⟩ : Flight), .bool (netAt ms i).2]) ∧
      SH Non Non w w' [.O 5 v (netAt ms i).1.bytes g] := by
  have hN' := hN
  obtain ⟨hsm, v, raws, g, F, hA⟩ := hN
  have H := SH.look hA
  simp only [List.map_cons, List.map_nil, toImm] at H
  have hls : FlsA F raws ms w := SH.propI H (i := 2) rfl
  have hl : raws.length = ms.length := All2.len hls
  refine calls_of_CW Tryz.func86 rfl Tryz.ntmps86 (Nat.le_of_ble_eq_true rfl) ?_
  simp only [argE, argFrom, Nat.reduceAdd]
  refine CW.seq fun K1 h1 => zr ?_
  refine s_alloc (cs := [.int .i64 0, .int .i64 0, .int .i64 0, .slice none 0 0]) H rfl Tryz.zeroValue180 rfl ?_
  clear H
  intro b0_0 w0_0 H
  try dsimp only [replC, List.cons_append, List.nil_append, List.append_nil, agg, cellsL, Value.cells, List.toList_toArray, List.set_cons_zero, List.set_cons_succ, spliceL, List.take_succ_cons, List.take_zero, List.drop_succ_cons, List.drop_zero, List.length_cons, List.length_nil, Nat.reduceAdd, Row.cells, Flight.L] at H
  refine zg iA (zn h1 ?_); try clear h1
  refine CW.seq (fun K2 h2 => ?_)
  refine CW.seq fun K3 h3 => zr ?_
  refine zg (zt iM (zt ilt iM)) ?_
  refine' LW.grpOr (n := 5) (ts := [0, 1, 4]) (d := 13) (tj := 8) rfl (fun hg1_3 => ?_) (fun hg1_3 => ?_) (fun σ => ?_)
  rotate_left
  · simp only [List.take_succ_cons, List.take_zero]
    have hg1_3P := hg1_3
    try simp only [zd] at hg1_3P
    refine LW.want rfl rfl hg1_3 ?_
    refine zg iM ?_
    refine LW.want rfl rfl hg1_3 ?_
    refine zg iM ?_
    refine LW.want rfl rfl hg1_3 ?_
    refine r_call rfl Tryz.call85 HS (Len_c _ (by exact hN'.upx (SH.ext H))) ?_
    rintro _ _ ⟨rfl, rfl⟩
    refine ⟨_, rfl, ?_⟩
    refine LW.want rfl rfl hg1_3 ?_
    refine zg ige ?_
    refine zg (zk (r_pickF rfl rfl hg1_3)) ?_
    refine LW.nil (thenE_norm ⟨rfl, rfl, rfl⟩)
  · simp only [List.take_succ_cons, List.take_zero]
    refine LW.skip rfl (fun _ e => by cases e; decide) rfl hg1_3 ?_
    refine LW.skip rfl (fun _ e => by cases e; decide) rfl hg1_3 ?_
    refine LW.skip rfl (fun _ e => by cases e; decide) rfl hg1_3 ?_
    refine LW.skip rfl (fun _ e => by cases e; decide) rfl hg1_3 ?_
    refine zg (zk (r_pickT rfl rfl hg1_3)) ?_
    refine LW.nil (thenE_norm ⟨rfl, rfl, rfl⟩)
  simp only [setL, keepE, upd_get, ev, Nat.reduceEqDiff, ↓reduceIte]; simp only [List.drop_succ_cons, List.drop_zero]
  refine LW.nil ?_
  refine thenE_norm (h3 _ _ ?_); clear h3; try clear K3
  refine CW.cond rfl (fun hc1 => ?_) (fun hc1 => ?_)
  · try simp only [zb] at hc1
    refine CW.seq fun K4 h4 => zr ?_
    refine zg (zk (r_buildQ rfl Tryz.underlying180 Tryz.zeroValue180 rfl (pl := [(0, 1), (1, 1), (2, 1), (3, 1)]) (by intro w; simp [go_sem]) (qs := []) (cs := [.int .i64 0, .int .i64 0, .int .i64 0, .slice none 0 0]) trivial rfl)) ?_
    refine s_storeA H Tryz.sizeOf180 rfl EV (by simp only [cellsL, agg, List.toList_toArray, Row.cells, Flight.L] <;> rfl) (by rfl) (by first | rfl | assumption | exact Rs.oneC RS | (simp only [List.all_cons, List.all_nil, Bool.and_true, Bool.and_eq_true, Row.cells, Flight.L]; (repeat' constructor) <;> first | rfl | assumption | exact Rs.oneC RS)) AT (by first | (simp; done) | decide | (show _ ≤ _; decide)) ?_
    clear H
    intro w2_1 H
    try dsimp only [replC, List.cons_append, List.nil_append, List.append_nil, agg, cellsL, Value.cells, List.toList_toArray, List.set_cons_zero, List.set_cons_succ, spliceL, List.take_succ_cons, List.take_zero, List.drop_succ_cons, List.drop_zero, List.length_cons, List.length_nil, Nat.reduceAdd, Row.cells, Flight.L] at H
    refine zg iA (zn h4 ?_); try clear h4
    refine CW.ret (tR (retC2 Tryz.results86 EV EV Tryz.isAgg180 Tryz.sizeOf180 (by exact SH.cells H AT) (by rfl) ?_))
    rw [netAt, if_neg (by omega)]
    exact ⟨_, none, rfl, SH.give (H.addO (α := UInt8) 5) SB ⟨trivial, trivial⟩⟩
  · try simp only [zb] at hc1
    refine CW.skip ?_
    refine thenE_norm (h2 _ _ ?_); clear h2; try clear K2
    refine CW.seq (fun K5 h5 => ?_)
    obtain ⟨r, hr⟩ := get_of_lt (show i.toNat < raws.length by omega)
    obtain ⟨m, hm, hrm⟩ := All2.get hls hr
    obtain ⟨e1, e2, e3, hbs⟩ := hrm
    have hml := hsm m (List.mem_of_getElem? hm)
    refine CW.region ?_
    refine zg (zt iM (zt iK (zt (fA 0) (zt iL (zt iM iI))))) ?_
    refine zg (zk (r_loadA rfl Tryz.isAgg180 Tryz.sizeOf180 rfl (by first | exact Rs.cells0 RS (by assumption)) (by rfl))) ?_
    refine r_call rfl Tryz.call135 HS (kept_c r _ (hbs.up0 (SH.ext H)) (by first | omega | (simp only [List.length_append, List.length_cons, List.length_nil]; omega) | (simp; omega))) ?_
    rintro _ w3_7 ⟨v3_7, g3_7, rfl, K⟩
    refine ⟨_, rfl, ?_⟩
    replace H := SH.call H K
    clear K
    try dsimp only [replC, List.cons_append, List.nil_append, List.append_nil] at H
    refine s_storeA H Tryz.sizeOf180 rfl EV (by simp only [cellsL, agg, List.toList_toArray, Row.cells, Flight.L] <;> rfl) (by rfl) (by first | rfl | assumption | exact Rs.oneC RS | (simp only [List.all_cons, List.all_nil, Bool.and_true, Bool.and_eq_true, Row.cells, Flight.L]; (repeat' constructor) <;> first | rfl | assumption | exact Rs.oneC RS)) AT (by first | (simp; done) | decide | (show _ ≤ _; decide)) ?_
    clear H
    intro w3_8 H
    try dsimp only [replC, List.cons_append, List.nil_append, List.append_nil, agg, cellsL, Value.cells, List.toList_toArray, List.set_cons_zero, List.set_cons_succ, spliceL, List.take_succ_cons, List.take_zero, List.drop_succ_cons, List.drop_zero, List.length_cons, List.length_nil, Nat.reduceAdd, Row.cells, Flight.L] at H
    refine zg iA (zc [4, 5] h5 fun σ => zg zm ?_); try clear h5
    refine CW.ret (retC2 Tryz.results86 EV EV Tryz.isAgg180 Tryz.sizeOf180 (by exact SH.cells H AT) (by rfl) ?_)
    rw [netAt_in (by omega) hm]
    dsimp only
    rw [← e1, ← e2, ← e3]
    exact ⟨_, _, rfl, (SH.give (SH.sel H [4] (by decide) rfl) (List.Sublist.refl _) (by repeat first | exact trivial | refine ⟨trivial, ?_⟩))⟩
theorem take_small {ms : List Fl} (n k : Nat) (h : small ms) : small (ms.take n ++ ms.drop k) := fun m hm => by
  rcases List.mem_append.1 hm with hm | hm
  · exact h m (List.mem_of_mem_take hm)
  · exact h m (List.mem_of_mem_drop hm)
/-- A net behind a flight that is taken. -/
def netCut (ms : List Fl) (i : Int) : List Fl := if 0 ≤ i ∧ i < ms.length then ms.take i.toNat ++ ms.drop (i.toNat + 1) else ms
set_option maxHeartbeats 1000000 in
theorem Take_c {p : Nat} {ms : List Fl} {lost : Int} {FN : Nat → Prop} (i : Int) (w : World) (hN : NetA p ms lost FN w) :
    Calls Tryz.prog 145 #[.pointer (some ⟨p, 0, none⟩), .int .i64 i] w fun e w' => ∃ v g FN', e = .returned (.tuple #[agg (⟨(netAt ms i).1.src, (netAt ms i).1.dst, (netAt ms i).1.born, v⟩ : Flight), .bool (netAt ms i).2]) ∧
      SH FN Non w w' [.P FN' (NetA p (netCut ms i) lost FN'), .O 5 v (netAt ms i).1.bytes g] := by
  have hN' := hN
  obtain ⟨hsm, v, raws, g, F, hA⟩ := hN
  have H := SH.obj (G := Any) hA
  have hls : FlsA F raws ms w := SH.prop H (i := 2) rfl
  have hl : raws.length = ms.length := All2.len hls
  refine calls_of_CW Tryz.func145 rfl Tryz.ntmps145 (Nat.le_of_ble_eq_true rfl) ?_
  simp only [argE, argFrom, Nat.reduceAdd]
  refine CW.seq fun K1 h1 => zr ?_
  refine s_alloc (cs := [.int .i64 0, .int .i64 0, .int .i64 0, .slice none 0 0]) H rfl Tryz.zeroValue180 rfl ?_
  clear H
  intro b0_0 w0_0 H
  try dsimp only [replC, List.cons_append, List.nil_append, List.append_nil, agg, cellsL, Value.cells, List.toList_toArray, List.set_cons_zero, List.set_cons_succ, spliceL, List.take_succ_cons, List.take_zero, List.drop_succ_cons, List.drop_zero, List.length_cons, List.length_nil, Nat.reduceAdd, Row.cells, Flight.L] at H
  refine zg iA (zn h1 ?_); try clear h1
  refine CW.seq fun K2 h2 => zr ?_
  refine zg (zt iM iM) ?_
  refine r_call rfl Tryz.call86 HS (Look_c i _ (by exact ⟨hsm, v, raws, g, F, SH.objA (SH.sel H [0, 1, 2] (by decide) rfl)⟩)) ?_
  rintro _ w1_2 ⟨v1_2, g1_2, rfl, K⟩
  refine ⟨_, rfl, ?_⟩
  replace H := SH.call H K
  clear K
  try dsimp only [replC, List.cons_append, List.nil_append, List.append_nil] at H
  refine zg (zt iM (zt iE iE)) ?_
  refine s_alloc (cs := [.int .i64 0, .int .i64 0, .int .i64 0, .slice none 0 0]) H rfl Tryz.zeroValue180 rfl ?_
  clear H
  intro b1_6 w1_6 H
  try dsimp only [replC, List.cons_append, List.nil_append, List.append_nil, agg, cellsL, Value.cells, List.toList_toArray, List.set_cons_zero, List.set_cons_succ, spliceL, List.take_succ_cons, List.take_zero, List.drop_succ_cons, List.drop_zero, List.length_cons, List.length_nil, Nat.reduceAdd, Row.cells, Flight.L] at H
  refine s_storeA H Tryz.sizeOf180 rfl EV (by simp only [cellsL, agg, List.toList_toArray, Row.cells, Flight.L] <;> rfl) (by rfl) (by first | rfl | assumption | exact Rs.oneC RS | (simp only [List.all_cons, List.all_nil, Bool.and_true, Bool.and_eq_true, Row.cells, Flight.L]; (repeat' constructor) <;> first | rfl | assumption | exact Rs.oneC RS)) AT (by first | (simp; done) | decide | (show _ ≤ _; decide)) ?_
  clear H
  intro w1_7 H
  try dsimp only [replC, List.cons_append, List.nil_append, List.append_nil, agg, cellsL, Value.cells, List.toList_toArray, List.set_cons_zero, List.set_cons_succ, spliceL, List.take_succ_cons, List.take_zero, List.drop_succ_cons, List.drop_zero, List.length_cons, List.length_nil, Nat.reduceAdd, Row.cells, Flight.L] at H
  refine zg iA (zc [0, 1, 4, 6, 7] h2 fun σ => zg zm ?_); try clear h2
  refine CW.seq (fun K3 h3 => ?_)
  refine CW.seq fun K4 h4 => zr ?_
  refine zg iM (zn h4 ?_); try clear h4
  refine CW.cond rfl (fun hc1 => ?_) (fun hc1 => ?_)
  · try simp only [zb] at hc1
    have hin : 0 ≤ i ∧ i < ms.length := by
      by_cases h : 0 ≤ i ∧ i < ms.length
      · exact h
      · rw [netAt, if_neg h] at hc1; cases hc1
    obtain ⟨n, rfl⟩ : ∃ n : Nat, i = n := ⟨i.toNat, by omega⟩
    have h63 := (SH.rsO H (i := 1) rfl).len63
    refine CW.region ?_
    refine zg (zt iM (zt iM (zt iK (zt (fA 0) (zt iL (zt iM (zt iM iP))))))) ?_
    refine r_call rfl Tryz.call218 HS (DelF_c n (n + 1) _ (SH.ow H (i := 1) rfl) (by omega) (by omega)) ?_
    rintro _ w3_8 ⟨v3_8, rfl, K⟩
    refine ⟨_, rfl, ?_⟩
    replace H := SH.updO H (i := 1) rfl K
    clear K
    try dsimp only [replC, List.cons_append, List.nil_append, List.append_nil] at H
    refine zg (zt iK (fA 0)) ?_
    refine s_store H Tryz.sizeOf90 rfl EV (by first | rfl | assumption | exact Rs.oneC RS | (simp only [List.all_cons, List.all_nil, Bool.and_true, Bool.and_eq_true, Row.cells, Flight.L]; (repeat' constructor) <;> first | rfl | assumption | exact Rs.oneC RS)) AT (by first | (simp; done) | decide | omega) ?_
    clear H
    intro w3_11 H
    try dsimp only [replC, List.cons_append, List.nil_append, List.append_nil, agg, cellsL, Value.cells, List.toList_toArray, List.set_cons_zero, List.set_cons_succ, spliceL, List.take_succ_cons, List.take_zero, List.drop_succ_cons, List.drop_zero, List.length_cons, List.length_nil, Nat.reduceAdd, Row.cells, Flight.L] at H
    refine LW.nil ?_
    refine thenE_norm ?_
    refine cut (K := K3) [4, 6, 7] (fun σ => ?_)
    refine zg zm ?_
    refine h3 _ _ ?_; clear h3; try clear K3
    refine CW.seq fun K5 h5 => zr ?_
    refine zg (zt (zk (r_loadA rfl Tryz.isAgg180 Tryz.sizeOf180 rfl (by first | exact SH.cells H AT) (by rfl))) iM) ?_
    refine s_storeA H Tryz.sizeOf180 rfl EV (by simp only [cellsL, agg, List.toList_toArray, Row.cells, Flight.L] <;> rfl) (by rfl) (by first | rfl | assumption | exact Rs.oneC RS | (simp only [List.all_cons, List.all_nil, Bool.and_true, Bool.and_eq_true, Row.cells, Flight.L]; (repeat' constructor) <;> first | rfl | assumption | exact Rs.oneC RS)) AT (by first | (simp; done) | decide | (show _ ≤ _; decide)) ?_
    clear H
    intro w4_2 H
    try dsimp only [replC, List.cons_append, List.nil_append, List.append_nil, agg, cellsL, Value.cells, List.toList_toArray, List.set_cons_zero, List.set_cons_succ, spliceL, List.take_succ_cons, List.take_zero, List.drop_succ_cons, List.drop_zero, List.length_cons, List.length_nil, Nat.reduceAdd, Row.cells, Flight.L] at H
    refine zg iA (zn h5 ?_); try clear h5
    refine CW.ret (retC2 Tryz.results145 EV EV Tryz.isAgg180 Tryz.sizeOf180 (by exact SH.cells H AT) (by rfl) ?_)
    have H2 := SH.cast (d := .P F (FlsA F (raws.take n ++ raws.drop (n + 1)) (ms.take n ++ ms.drop (n + 1)))) H (i := 2) rfl (fun _ => trivial) (fun b hb => hb) fls_st (fun h => (All2.take n h).app (All2.drop (n + 1) h))
    obtain ⟨FN', K⟩ := NetA.mkL (lost := lost) (take_small n (n + 1) hsm) (SH.sel H2 [0, 1, 2, 4] (by decide) rfl)
    rw [netCut, if_pos hin]
    exact ⟨_, _, _, rfl, SH.give K (List.Sublist.refl _) ⟨trivial, trivial, trivial⟩⟩
  · try simp only [zb] at hc1
    refine CW.skip ?_
    refine thenE_norm (h3 _ _ ?_); clear h3; try clear K3
    refine CW.seq fun K6 h6 => zr ?_
    refine zg (zt (zk (r_loadA rfl Tryz.isAgg180 Tryz.sizeOf180 rfl (by first | exact SH.cells H AT) (by rfl))) iM) ?_
    refine s_storeA H Tryz.sizeOf180 rfl EV (by simp only [cellsL, agg, List.toList_toArray, Row.cells, Flight.L] <;> rfl) (by rfl) (by first | rfl | assumption | exact Rs.oneC RS | (simp only [List.all_cons, List.all_nil, Bool.and_true, Bool.and_eq_true, Row.cells, Flight.L]; (repeat' constructor) <;> first | rfl | assumption | exact Rs.oneC RS)) AT (by first | (simp; done) | decide | (show _ ≤ _; decide)) ?_
    clear H
    intro w4_2 H
    try dsimp only [replC, List.cons_append, List.nil_append, List.append_nil, agg, cellsL, Value.cells, List.toList_toArray, List.set_cons_zero, List.set_cons_succ, spliceL, List.take_succ_cons, List.take_zero, List.drop_succ_cons, List.drop_zero, List.length_cons, List.length_nil, Nat.reduceAdd, Row.cells, Flight.L] at H
    refine zg iA (zn h6 ?_); try clear h6
    refine CW.ret (retC2 Tryz.results145 EV EV Tryz.isAgg180 Tryz.sizeOf180 (by exact SH.cells H AT) (by rfl) ?_)
    have hno : ¬ (0 ≤ i ∧ i < ms.length) := by
      intro h
      rw [netAt, if_pos h] at hc1; cases hc1
    obtain ⟨FN', K⟩ := NetA.mkL (lost := lost) hsm (SH.sel H [0, 1, 2, 4] (by decide) rfl)
    rw [netCut, if_neg hno]
    exact ⟨_, _, _, rfl, SH.give K (List.Sublist.refl _) ⟨trivial, trivial, trivial⟩⟩
/-- A net behind one more like a flight. -/
def netTwice (ms : List Fl) (lost : Int) (i : Int) : List Fl × Int × Int := if (netAt ms i).2 = true then netPut ms lost (netAt ms i).1 else (ms, lost, 6)
theorem Twice_c {p : Nat} {ms : List Fl} {lost : Int} {FN : Nat → Prop} (i : Int) (w : World) (hN : NetA p ms lost FN w) (hl0 : 0 ≤ lost) (hl1 : lost < 1000000) :
    Calls Tryz.prog 149 #[.pointer (some ⟨p, 0, none⟩), .int .i64 i] w fun e w' => ∃ FN', e = .returned (.int .i64 (netTwice ms lost i).2.2) ∧ SH FN Non w w' [.P FN' (NetA p (netTwice ms lost i).1 (netTwice ms lost i).2.1 FN')] := by
  have H := SH.objP (G := Any) hN net_st (fun w h => NetA.lt h)
  refine calls_of_CW Tryz.func149 rfl Tryz.ntmps149 (Nat.le_of_ble_eq_true rfl) ?_
  simp only [argE, argFrom, Nat.reduceAdd]
  refine CW.seq fun K1 h1 => zr ?_
  refine zg iA (zn h1 ?_); try clear h1
  refine CW.seq fun K2 h2 => zr ?_
  refine zg (zt iM iM) ?_
  refine r_call rfl Tryz.call86 HS (Look_c _ _ (SH.prop H AT)) ?_
  rintro _ w1_2 ⟨v1_2, g1_2, rfl, K⟩
  refine ⟨_, rfl, ?_⟩
  replace H := SH.call H K
  clear K
  try dsimp only [replC, List.cons_append, List.nil_append, List.append_nil] at H
  refine zg (zt iM (zt iE iE)) ?_
  refine s_alloc (cs := [.int .i64 0, .int .i64 0, .int .i64 0, .slice none 0 0]) H rfl Tryz.zeroValue180 rfl ?_
  clear H
  intro b1_6 w1_6 H
  try dsimp only [replC, List.cons_append, List.nil_append, List.append_nil, agg, cellsL, Value.cells, List.toList_toArray, List.set_cons_zero, List.set_cons_succ, spliceL, List.take_succ_cons, List.take_zero, List.drop_succ_cons, List.drop_zero, List.length_cons, List.length_nil, Nat.reduceAdd, Row.cells, Flight.L] at H
  refine s_storeA H Tryz.sizeOf180 rfl EV (by simp only [cellsL, agg, List.toList_toArray, Row.cells, Flight.L] <;> rfl) (by rfl) (by first | rfl | assumption | exact Rs.oneC RS | (simp only [List.all_cons, List.all_nil, Bool.and_true, Bool.and_eq_true, Row.cells, Flight.L]; (repeat' constructor) <;> first | rfl | assumption | exact Rs.oneC RS)) AT (by first | (simp; done) | decide | (show _ ≤ _; decide)) ?_
  clear H
  intro w1_7 H
  try dsimp only [replC, List.cons_append, List.nil_append, List.append_nil, agg, cellsL, Value.cells, List.toList_toArray, List.set_cons_zero, List.set_cons_succ, spliceL, List.take_succ_cons, List.take_zero, List.drop_succ_cons, List.drop_zero, List.length_cons, List.length_nil, Nat.reduceAdd, Row.cells, Flight.L] at H
  refine zg iA (zc [0, 5, 6] h2 fun σ => zg zm ?_); try clear h2
  refine CW.seq (fun K3 h3 => ?_)
  refine CW.seq fun K4 h4 => zr ?_
  refine zg (zt iM iN) (zn h4 ?_); try clear h4
  refine CW.cond rfl (fun hc1 => ?_) (fun hc1 => ?_)
  · try simp only [zb] at hc1
    refine CW.seq fun K5 h5 => zr ?_
    refine zg iA (zn h5 ?_); try clear h5
    refine CW.ret (tR (ret1 Tryz.results149 EV ?_))
    rw [netTwice, if_neg (by simpa using hc1)]
    exact ⟨_, rfl, (SH.give (SH.sel H [0] (by decide) rfl) (List.Sublist.refl _) (by repeat first | exact trivial | refine ⟨trivial, ?_⟩))⟩
  · try simp only [zb] at hc1
    refine CW.skip ?_
    refine thenE_norm (h3 _ _ ?_); clear h3; try clear K3
    refine CW.seq fun K6 h6 => zr ?_
    refine zg iM ?_
    refine zg (zk (r_loadA rfl Tryz.isAgg180 Tryz.sizeOf180 rfl (by first | exact SH.cells H AT) (by rfl))) ?_
    refine r_call rfl Tryz.call155 HS (Put_c ⟨_, _, _, _⟩ _ (SH.prop H (i := 0) rfl) (SH.rsO H (i := 1) rfl) (fun b h1 h2 => (SH.val H).apart (i := 0) (j := 1) rfl rfl (by decide) (.inl trivial) b h2 h1) hl0 hl1) ?_
    rintro _ w4_2 ⟨FN4_2, rfl, K⟩
    refine ⟨_, rfl, ?_⟩
    replace H := SH.updP H (i := 0) rfl K
    clear K
    try dsimp only [replC, List.cons_append, List.nil_append, List.append_nil] at H
    refine zg iA (zn h6 ?_); try clear h6
    refine CW.ret (ret1 Tryz.results149 EV ?_)
    rw [netTwice, if_pos (by simpa using hc1)]
    exact ⟨_, rfl, (SH.give (SH.sel H [0] (by decide) rfl) (List.Sublist.refl _) (by repeat first | exact trivial | refine ⟨trivial, ?_⟩))⟩
end Go.Proofs.YtgmmbdmdimkfjaaGreat
namespace Go.Proofs.YtgmmbdmdimkfjaaGreat
set_option linter.unusedSimpArgs false
set_option linter.unusedVariables false
set_option maxRecDepth 20000
open Go.V Go.RowKit Go.ChangeShapes Go.WideShapes
structure Hd where
  now : Int
  r : Nat
deriving DecidableEq
def Hd.L (a : Hd) : List Value := [.int .i64 a.now, .float .f64 a.r]
instance : Row Hd := ⟨2, Hd.L, ⟨0, 0⟩, fun _ => rfl, rfl⟩
/-- The program's clocks: n of them, their rates among those that may be. -/
def ClockA (p n : Nat) (F : Nat → Prop) (w : World) : Prop :=
  ∃ v raws g ref worst, raws.length = n ∧ n ≤ 15 ∧ (∀ h ∈ raws, h.r ∈ cleanL) ∧ ObjA F w [.B p 190 [v, .int .i64 ref, .int .i64 worst], .O 188 v (raws : List Hd) g]
theorem ClockA.st {p n : Nat} {F : Nat → Prop} : Ch.St F (ClockA p n F) := fun V w w' ⟨v, raws, g, ref, worst, h1, h2, h3, h4⟩ e hd => ⟨v, raws, g, ref, worst, h1, h2, h3, h4.up e hd⟩
theorem ClockA.lt {p n : Nat} {F : Nat → Prop} {w : World} (h : ClockA p n F w) : ∀ b, F b → b < w.heap.size := by
  obtain ⟨_, _, _, _, _, _, _, _, h⟩ := h
  exact h.2
theorem ClockA.mkL {U G : Nat → Prop} {w0 w : World} {L : List Ch} {p n : Nat} {v : Value} {raws : List Hd} {g : Option Nat} {ref worst : Int} (h1 : raws.length = n) (h2 : n ≤ 15) (h3 : ∀ h ∈ raws, h.r ∈ cleanL)
    (H : SH U G w0 w ([.B p 190 [v, .int .i64 ref, .int .i64 worst], .O 188 v raws g] ++ L)) : ∃ F, SH U G w0 w (.P F (ClockA p n F) :: L) :=
  ⟨_, SH.pack (A := ClockA p n (foot [.B p 190 [v, .int .i64 ref, .int .i64 worst], .O 188 v raws g])) H ⟨trivial, trivial, trivial⟩ ClockA.st (fun h => ⟨v, raws, g, ref, worst, h1, h2, h3, h⟩)⟩
theorem ClockLen_c {p n : Nat} {F : Nat → Prop} (w : World) (h : ClockA p n F w) : Calls Tryz.prog 166 #[.pointer (some ⟨p, 0, none⟩)] w fun e w' => e = .returned (.int .i64 n) ∧ w = w' := by
  obtain ⟨v, raws, g, ref, worst, hl, hn, hr, hA⟩ := h
  have H := SH.obj (G := Any) hA
  refine calls_of_CW Tryz.func166 rfl Tryz.ntmps166 (Nat.le_of_ble_eq_true rfl) ?_
  simp only [argE, argFrom, Nat.reduceAdd]
  refine CW.seq fun K1 h1 => zr ?_
  refine zg iA (zn h1 ?_); try clear h1
  refine CW.seq (fun K2 h2 => ?_)
  refine CW.seq fun K3 h3 => zr ?_
  refine zg iM ?_
  refine zg (zk (r_eqlP rfl Tryz.underlying93 rfl rfl)) (zn h3 ?_); try clear h3
  refine CW.condF rfl (by first | rfl | (simp only [zd]; omega) | simp_all) ?_
  refine CW.skip ?_
  refine thenE_norm (h2 _ _ ?_); clear h2; try clear K2
  refine CW.seq fun K4 h4 => zr ?_
  refine zg (zt iM (zt iK (zt (fA 0) (zt iL (zt iVV iA))))) (zc [2] h4 fun σ => zg zm ?_); try clear h4
  refine CW.ret (ret1 Tryz.results166 EV ?_)
  rw [hl]
  exact ⟨rfl, rfl⟩
theorem ClockNow_c {p n : Nat} {F : Nat → Prop} (i : Int) (w : World) (h : ClockA p n F w) : Calls Tryz.prog 111 #[.pointer (some ⟨p, 0, none⟩), .int .i64 i] w fun e w' => ∃ x, e = .returned (.int .i64 x) ∧ w = w' := by
  have h' := h
  obtain ⟨v, raws, g, ref, worst, hl, hn, hr, hA⟩ := h
  have H := SH.obj (G := Any) hA
  refine calls_of_CW Tryz.func111 rfl Tryz.ntmps111 (Nat.le_of_ble_eq_true rfl) ?_
  simp only [argE, argFrom, Nat.reduceAdd]
  refine CW.seq fun K1 h1 => zr ?_
  refine zg iA (zn h1 ?_); try clear h1
  refine CW.seq (fun K2 h2 => ?_)
  refine CW.seq fun K3 h3 => zr ?_
  refine zg (zt iM (zt ilt iM)) ?_
  refine' LW.grpOr (n := 5) (ts := [0, 1]) (d := 12) (tj := 7) rfl (fun hg1_3 => ?_) (fun hg1_3 => ?_) (fun σ => ?_)
  rotate_left
  · simp only [List.take_succ_cons, List.take_zero]
    have hg1_3P := hg1_3
    try simp only [zd] at hg1_3P
    refine LW.want rfl rfl hg1_3 ?_
    refine zg iM ?_
    refine LW.want rfl rfl hg1_3 ?_
    refine zg iM ?_
    refine LW.want rfl rfl hg1_3 ?_
    refine r_call rfl Tryz.call166 HS (ClockLen_c _ h') ?_
    rintro _ _ ⟨rfl, rfl⟩
    refine ⟨_, rfl, ?_⟩
    refine LW.want rfl rfl hg1_3 ?_
    refine zg ige ?_
    refine zg (zk (r_pickF rfl rfl hg1_3)) ?_
    refine LW.nil (thenE_norm ⟨rfl, rfl, rfl⟩)
  · simp only [List.take_succ_cons, List.take_zero]
    refine LW.skip rfl (fun _ e => by cases e; decide) rfl hg1_3 ?_
    refine LW.skip rfl (fun _ e => by cases e; decide) rfl hg1_3 ?_
    refine LW.skip rfl (fun _ e => by cases e; decide) rfl hg1_3 ?_
    refine LW.skip rfl (fun _ e => by cases e; decide) rfl hg1_3 ?_
    refine zg (zk (r_pickT rfl rfl hg1_3)) ?_
    refine LW.nil (thenE_norm ⟨rfl, rfl, rfl⟩)
  simp only [setL, keepE, upd_get, ev, Nat.reduceEqDiff, ↓reduceIte]; simp only [List.drop_succ_cons, List.drop_zero]
  refine LW.nil ?_
  refine thenE_norm (h3 _ _ ?_); clear h3; try clear K3
  refine CW.cond rfl (fun hc1 => ?_) (fun hc1 => ?_)
  · try simp only [zb] at hc1
    refine CW.seq fun K4 h4 => zr ?_
    refine zg iA (zn h4 ?_); try clear h4
    refine CW.ret (tR (ret1 Tryz.results111 EV ?_))
    exact ⟨_, rfl, rfl⟩
  · try simp only [zb] at hc1
    refine CW.skip ?_
    refine thenE_norm (h2 _ _ ?_); clear h2; try clear K2
    refine CW.seq (fun K5 h5 => ?_)
    obtain ⟨x, hx⟩ := get_of_lt (show i.toNat < raws.length by omega)
    refine CW.region ?_
    refine zg (zt iM (zt iK (zt (fA 0) (zt iL (zt iM (zt iI (zt (fB 0) (zt iL iA)))))))) (zc [4] h5 fun σ => zg zm ?_); try clear h5
    refine CW.ret (ret1 Tryz.results111 EV ?_)
    exact ⟨_, rfl, rfl⟩
theorem wr_quo {a n : Int} (h0 : 0 ≤ a) (hn : 0 < n) (h : a ≤ 9223372036854775807) : IntKind.i64.wrap (a / n) = a / n :=
  wr_i64 (by have := Int.ediv_nonneg h0 (Int.le_of_lt hn); omega) (by have := Int.ediv_le_self n h0; omega)
theorem least_c (n m : Int) (w : World) (hn : 1 ≤ n) (hn2 : n ≤ 1000) (hm : 0 ≤ m) (hm2 : m ≤ 1000) : Calls Tryz.prog 225 #[.int .i64 n, .int .i64 m] w fun e w' => ∃ x, e = .returned (.int .i64 x) ∧ w = w' := by
  refine calls_of_CW Tryz.func225 rfl Tryz.ntmps225 (Nat.le_of_ble_eq_true rfl) ?_
  simp only [argE, argFrom, Nat.reduceAdd]
  refine CW.seq fun K1 h1 => zr ?_
  refine zg iA (zn h1 ?_); try clear h1
  refine CW.seq fun K2 h2 => zr ?_
  refine zg (zt iM (zt iM (zt iS (zt iM (zt iM iS))))) ?_
  refine zg (zt (zk (r_max rfl EV EV)) (zt iX iA)) (zc [0, 5] h2 fun σ => zg zm ?_); try clear h2
  refine CW.seq fun K3 h3 => zr ?_
  refine zg (zt iM (zt iM (zt iP (zt iS iM)))) ?_
  refine zg (zk (r_quo rfl rfl rfl (by omega) (by omega) (wr_quo (by omega) (by omega) (by omega)))) ?_
  refine zg (zt (zk (r_min rfl EV EV)) iA) (zc [4] h3 fun σ => zg zm ?_); try clear h3
  refine CW.ret (ret1 Tryz.results225 EV ?_)
  exact ⟨_, rfl, rfl⟩
set_option maxHeartbeats 1000000 in
theorem ClockSet_c {p n : Nat} {F : Nat → Prop} (i : Int) (r : Nat) (w : World) (h : ClockA p n F w) (hr : r ∈ ratesL) : Calls Tryz.prog 151 #[.pointer (some ⟨p, 0, none⟩), .int .i64 i, .float .f64 r] w fun e w' => ∃ x F', e = .returned (.int .i64 x) ∧ SH F Non w w' [.P F' (ClockA p n F')] := by
  have h' := h
  obtain ⟨v, raws, g, ref, worst, hl, hn, hrs, hA⟩ := h
  have H := SH.obj (G := Any) hA
  refine calls_of_CW Tryz.func151 rfl Tryz.ntmps151 (Nat.le_of_ble_eq_true rfl) ?_
  simp only [argE, argFrom, Nat.reduceAdd]
  refine CW.seq fun K1 h1 => zr ?_
  refine zg iA (zn h1 ?_); try clear h1
  refine CW.seq (fun K2 h2 => ?_)
  refine CW.seq fun K3 h3 => zr ?_
  refine zg (zt iM (zt ilt iM)) ?_
  refine' LW.grpOr (n := 5) (ts := [0, 1, 2]) (d := 14) (tj := 9) rfl (fun hg1_3 => ?_) (fun hg1_3 => ?_) (fun σ => ?_)
  rotate_left
  · simp only [List.take_succ_cons, List.take_zero]
    have hg1_3P := hg1_3
    try simp only [zd] at hg1_3P
    refine LW.want rfl rfl hg1_3 ?_
    refine zg iM ?_
    refine LW.want rfl rfl hg1_3 ?_
    refine zg iM ?_
    refine LW.want rfl rfl hg1_3 ?_
    refine r_call rfl Tryz.call166 HS (ClockLen_c _ h') ?_
    rintro _ _ ⟨rfl, rfl⟩
    refine ⟨_, rfl, ?_⟩
    refine LW.want rfl rfl hg1_3 ?_
    refine zg ige ?_
    refine zg (zk (r_pickF rfl rfl hg1_3)) ?_
    refine LW.nil (thenE_norm ⟨rfl, rfl, rfl⟩)
  · simp only [List.take_succ_cons, List.take_zero]
    refine LW.skip rfl (fun _ e => by cases e; decide) rfl hg1_3 ?_
    refine LW.skip rfl (fun _ e => by cases e; decide) rfl hg1_3 ?_
    refine LW.skip rfl (fun _ e => by cases e; decide) rfl hg1_3 ?_
    refine LW.skip rfl (fun _ e => by cases e; decide) rfl hg1_3 ?_
    refine zg (zk (r_pickT rfl rfl hg1_3)) ?_
    refine LW.nil (thenE_norm ⟨rfl, rfl, rfl⟩)
  simp only [setL, keepE, upd_get, ev, Nat.reduceEqDiff, ↓reduceIte]; simp only [List.drop_succ_cons, List.drop_zero]
  refine LW.nil ?_
  refine thenE_norm (h3 _ _ ?_); clear h3; try clear K3
  refine CW.cond rfl (fun hc1 => ?_) (fun hc1 => ?_)
  · try simp only [zb] at hc1
    refine CW.seq fun K4 h4 => zr ?_
    refine zg iA (zn h4 ?_); try clear h4
    refine CW.ret (tR (ret1 Tryz.results151 EV ?_))
    obtain ⟨F', K⟩ := ClockA.mkL (L := []) hl hn hrs H
    exact ⟨_, _, rfl, SH.give K (List.Sublist.refl _) ⟨trivial, trivial⟩⟩
  · try simp only [zb] at hc1
    refine CW.skip ?_
    refine thenE_norm (h2 _ _ ?_); clear h2; try clear K2
    refine CW.seq (fun K5 h5 => ?_)
    obtain ⟨x, hx⟩ := get_of_lt (show i.toNat < raws.length by omega)
    refine CW.drawH [9] H (List.Sublist.refl _) (by kernel_rfl) rfl ?_
    clear H
    intro w3d H
    refine DL.take (i := 0) [0, 1, 2, 3, 7, 8, 9] rfl (by kernel_rfl) (by kernel_rfl) (by kernel_rfl) (by kernel_rfl) rfl rfl (fun u H => x_move ) H ?_
    refine DL.take (i := 1) [1, 2, 3, 7, 8, 9] rfl (by kernel_rfl) (by kernel_rfl) (by kernel_rfl) (by kernel_rfl) rfl rfl (fun u H => x_nilCheck rfl) H ?_
    refine DL.take (i := 2) [2, 3, 7, 8, 9] rfl (by kernel_rfl) (by kernel_rfl) (by kernel_rfl) (by kernel_rfl) rfl rfl (fun u H => x_fieldAddrO Tryz.underlying190 rfl Tryz.sizeOf185 (by decide) (show _ = 0 from rfl) rfl) H ?_
    refine DL.take (i := 3) [3, 7, 8, 9] rfl (by kernel_rfl) (by kernel_rfl) (by kernel_rfl) (by kernel_rfl) rfl rfl (fun u H => x_load Tryz.isAgg185 rfl (by first | exact SH.cellB H AT (by rfl) | exact SH.cellI H AT (by rfl) | assumption)) H ?_
    refine DL.take (i := 4) [4, 7, 8, 9] rfl (by kernel_rfl) (by kernel_rfl) (by kernel_rfl) (by kernel_rfl) rfl rfl (fun u H => x_move ) H ?_
    refine DL.take (i := 5) [5, 6, 7, 8, 9] rfl (by kernel_rfl) (by kernel_rfl) (by kernel_rfl) (by kernel_rfl) rfl rfl (fun u H => x_move ) H ?_
    refine DL.one (i := 6) (by kernel_rfl) rfl rfl ?_
    refine r_call rfl Tryz.call226 HS (Clean_c _ (by assumption)) ?_
    rintro _ w3_6 ⟨y3_6, hy3_6, rfl, X⟩
    refine ⟨_, rfl, ?_⟩
    replace H := SH.same H X
    clear X
    refine LW.nil (thenE_norm ⟨fun _ => (SH.sub H SB), ?_⟩)
    refine DL.take (i := 7) [7, 8, 9] rfl (by kernel_rfl) (by kernel_rfl) (by kernel_rfl) (by kernel_rfl) rfl rfl (fun u H => x_indexAddrV Tryz.underlying185 EV rfl RS (by exact Tryz.sizeOf188) (by omega) (by omega)) (SH.sub H SB) ?_
    refine DL.take (i := 8) [8, 9] rfl (by kernel_rfl) (by kernel_rfl) (by kernel_rfl) (by kernel_rfl) rfl rfl (fun u H => x_fieldAddrO Tryz.underlying188 rfl Tryz.sizeOf33 (by decide) (show _ + 1 = _ from rfl) rfl) (SH.sub H SB) ?_
    refine DL.one (i := 9) (by kernel_rfl) rfl rfl ?_
    refine s_storeR (o := 1) (x1 := ⟨x.now, y3_6⟩) H Tryz.sizeOf33 rfl EV (by first | rfl | assumption | exact Rs.oneC RS | (simp only [List.all_cons, List.all_nil, Bool.and_true, Bool.and_eq_true, Row.cells, Flight.L, Hd.L]; (repeat' constructor) <;> first | rfl | assumption | exact Rs.oneC RS)) AT hx (by rfl) (by rfl) (by rfl) (by first | rfl | assumption | exact Rs.oneC RS | (simp only [List.all_cons, List.all_nil, Bool.and_true, Bool.and_eq_true, Row.cells, Flight.L, Hd.L]; (repeat' constructor) <;> first | rfl | assumption | exact Rs.oneC RS)) ?_
    clear H
    intro w3_9 H
    try dsimp only [replC, List.cons_append, List.nil_append, List.append_nil, agg, cellsL, Value.cells, List.toList_toArray, List.set_cons_zero, List.set_cons_succ, spliceL, List.take_succ_cons, List.take_zero, List.drop_succ_cons, List.drop_zero, List.length_cons, List.length_nil, Nat.reduceAdd, Row.cells, Flight.L, Hd.L] at H
    refine LW.nil (thenE_norm ⟨fun h => Bool.noConfusion (show true = false from h), ?_⟩)
    refine DL.done (by kernel_rfl) ?_
    refine thenE_norm ?_
    refine cut (K := K5) [] (fun σ => ?_)
    refine zg zm ?_
    refine h5 _ _ ?_; clear h5; try clear K5
    refine CW.seq fun K6 h6 => zr ?_
    refine zg iA (zn h6 ?_); try clear h6
    refine CW.ret (ret1 Tryz.results151 EV ?_)
    obtain ⟨F', K⟩ := ClockA.mkL (L := []) (by rw [List.length_set]; exact hl) hn (fun h hh => (List.mem_or_eq_of_mem_set hh).elim (hrs h) (fun e => by rw [e]; assumption)) H
    exact ⟨_, _, rfl, SH.give K (List.Sublist.refl _) ⟨trivial, trivial⟩⟩
end Go.Proofs.YtgmmbdmdimkfjaaGreat
