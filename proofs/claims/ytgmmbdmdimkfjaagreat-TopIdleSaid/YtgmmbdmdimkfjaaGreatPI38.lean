/-
  TopIdle: true, whatever the bytes are
-/
import Derived.Test.YtgmmbdmdimkfjaaGreatPI36
import Derived.Test.YtgmmbdmdimkfjaaGreatPI37
import Derived.Test.YtgmmbdmdimkfjaaGreatPI35
import Derived.Test.YtgmmbdmdimkfjaaGreatPI21
import Derived.Test.YtgmmbdmdimkfjaaGreatPI05
namespace Go.Proofs.YtgmmbdmdimkfjaaGreat
set_option linter.unusedSimpArgs false
set_option linter.unusedVariables false
set_option maxRecDepth 20000
open Go.V Go.RowKit Go.ChangeShapes Go.WideShapes
theorem ConfX_c {F : Nat → Prop} {v : Value} {bs : List UInt8} (w : World) (hv : Rs F w v bs) : Calls Tryz.prog 14 #[v] w fun e w' => ∃ (R C : Nat) (cf : Nat → Int), okR R ∧ FactsC cf ∧ cf 0 = C ∧ 1 ≤ C ∧ C ≤ 5 ∧ e = .returned (confV R cf) ∧ Ext0 w w' := by
  refine Calls.mono (Conf_c w hv) ?_
  rintro e w' ⟨R, s0, s1, s2, s3, s4, s5, s6, s7, s8, s9, hR, hs, rfl, X⟩
  exact ⟨R, s0.toNat, _, hR, facts_of hs, by show s0 = _; omega, by omega, by omega, rfl, X⟩
theorem WorldA.up1 {R C p k j : Nat} {F : Nat → Prop} {w : World} (h : WorldA R C p k j F w) : WorldA R C p (k + 1) (j + 1) F w := by
  obtain ⟨s, hok, hA⟩ := h
  exact ⟨s, ⟨hok.1, hok.2, hok.3, hok.4, hok.5, hok.6, hok.7, hok.8, hok.9, hok.10, by have := hok.11; omega, hok.12, by have := hok.13; omega⟩, hA⟩
set_option maxHeartbeats 8000000 in
theorem TopIdle_c {F0 F1 : Nat → Prop} {v0 v1 : Value} {ns sc : List UInt8} (w : World) (h0 : Rs F0 w v0 ns) (h1 : Rs F1 w v1 sc) :
    Calls Tryz.prog 5 #[v0, v1] w fun e w' => e = .returned (.bool true) ∧ Ext0 w w' := by
  have H := ((SH.start (U := Non) (G := Any) w).arg h0).arg h1
  refine calls_of_CW Tryz.func5 rfl Tryz.ntmps5 (Nat.le_of_ble_eq_true rfl) ?_
  simp only [argE, argFrom, Nat.reduceAdd]
  refine CW.seq fun K1 h1 => zr ?_
  refine zg iA (zn h1 ?_); try clear h1
  refine CW.seq fun K2 h2 => zr ?_
  refine zg iM ?_
  refine r_call rfl Tryz.call14 HS (ConfX_c _ (SH.rsR H (i := 0) rfl)) ?_
  rintro _ w1_1 ⟨R, C, cf, hR, hcf, hcC, hC1, hC5, rfl, X⟩
  refine ⟨_, rfl, ?_⟩
  replace H := SH.same H X
  clear X
  unfold confV
  refine s_alloc (cs := [.int .i64 0, .int .i64 0, .int .i64 0, .int .i64 0, .int .i64 0, .int .i64 0, .int .i64 0, .int .i64 0, .int .i64 0, .int .i64 0, .int .i64 0]) H rfl Tryz.zeroValue24 rfl ?_
  clear H
  intro b1_2 w1_2 H
  try dsimp only [replC, List.cons_append, List.nil_append, List.append_nil, agg, cellsL, Value.cells, List.toList_toArray, List.set_cons_zero, List.set_cons_succ, spliceL, List.take_succ_cons, List.take_zero, List.drop_succ_cons, List.drop_zero, List.length_cons, List.length_nil, Nat.reduceAdd, Row.cells, Flight.L, Hd.L, Snd.L, Ev.L] at H
  refine s_storeA H Tryz.sizeOf24 rfl EV (by simp only [cellsL, agg, List.toList_toArray, Row.cells, Flight.L, Hd.L, Snd.L, Ev.L] <;> rfl) (by rfl) (by first | rfl | assumption | exact Rs.oneC RS | (simp only [List.all_cons, List.all_nil, Bool.and_true, Bool.and_eq_true, Row.cells, Flight.L, Hd.L, Snd.L, Ev.L]; (repeat' constructor) <;> first | rfl | assumption | exact Rs.oneC RS)) AT (by first | (simp; done) | decide | (show _ ≤ _; decide)) ?_
  clear H
  intro w1_3 H
  try dsimp only [replC, List.cons_append, List.nil_append, List.append_nil, agg, cellsL, Value.cells, List.toList_toArray, List.set_cons_zero, List.set_cons_succ, spliceL, List.take_succ_cons, List.take_zero, List.drop_succ_cons, List.drop_zero, List.length_cons, List.length_nil, Nat.reduceAdd, Row.cells, Flight.L, Hd.L, Snd.L, Ev.L] at H
  refine LW.nil ?_
  refine thenE_norm (h2 _ _ ?_); clear h2; try clear K2
  refine CW.seq fun K3 h3 => zr ?_
  refine zg (zt (zk (r_loadA rfl Tryz.isAgg24 Tryz.sizeOf24 rfl (by first | exact SH.cells H AT) (by rfl))) iM) ?_
  refine r_call rfl Tryz.call16 HS (Script_c hR (by omega) (by omega) _ (SH.rsR H (i := 1) rfl)) ?_
  rintro _ w2_2 ⟨v2_2, g2_2, evs, FE, rfl, hn, K⟩
  refine ⟨_, rfl, ?_⟩
  replace H := SH.call H K
  clear K
  try dsimp only [replC, List.cons_append, List.nil_append, List.append_nil] at H
  refine zg iA (zc [5, 6] h3 fun σ => zg zm ?_); try clear h3
  refine CW.seq fun K4 h4 => zr ?_
  refine zg (zk (r_loadA rfl Tryz.isAgg24 Tryz.sizeOf24 rfl (by first | exact SH.cells H AT) (by rfl))) ?_
  refine r_call rfl Tryz.call8 HS (WNew_c hR hcf hcC hC1 hC5 _) ?_
  rintro _ w3_1 ⟨p, F3_1, rfl, K⟩
  refine ⟨_, rfl, ?_⟩
  replace H := SH.call H K
  clear K
  try dsimp only [replC, List.cons_append, List.nil_append, List.append_nil] at H
  refine zg (zt iM (zt iE (zt iE (zt iA iA)))) (zn h4 ?_); try clear h4
  refine CW.seq (fun K5 h5 => ?_)
  refine CW.seq fun K6 h6 => zr ?_
  refine zg iM ?_
  refine zg (zt (zk (r_eqlP rfl Tryz.underlying28 rfl rfl)) iM) ?_
  refine LW.known (t := 26) (c := false) rfl (by first | rfl | (simp only [zd]; omega) | simp_all) (fun hg4_3 => ?_)
  refine LW.want rfl rfl hg4_3 ?_
  refine zg iM ?_
  refine LW.want rfl rfl hg4_3 ?_
  refine zg ine ?_
  refine zg (zk (r_pickF rfl rfl hg4_3)) (zc [5, 6, 7, 29] h6 fun σ => zg zm ?_); try clear h6
  refine CW.condF rfl (by first | rfl | (simp only [zd]; omega) | simp_all) ?_
  refine CW.skip ?_
  refine thenE_norm (h5 _ _ ?_); clear h5; try clear K5
  refine CW.seq (fun K7 h7 => ?_)
  refine CW.seq fun K8 h8 => zr ?_
  refine zg iA (zn h8 ?_); try clear h8
  refine CW.block ?_
  refine CW.loopR [5, 6, 7] [9] (fun m vs w' => ∃ (i : Nat) (F : Nat → Prop), vs = [.int .i64 i] ∧ i ≤ evs.length ∧ m = evs.length - i ∧ SH Non Any w w' [.B b1_2 24 [.int .i64 R, .int .i64 (cf 0), .int .i64 (cf 1), .int .i64 (cf 2), .int .i64 (cf 3), .int .i64 (cf 4), .int .i64 (cf 5), .int .i64 (cf 6), .int .i64 (cf 7), .int .i64 (cf 8), .int .i64 (cf 9)], .O 35 v2_2 evs g2_2, .P FE (EvsA FE evs), .P F (WorldA R C p i i F)]) (evs.length) ?_ ?_
  · exact ⟨0, _, rfl, by omega, rfl, SH.sel H [2, 3, 4, 5] (by decide) rfl⟩
  try clear H
  rintro n1 vs1 wL1 σ ⟨i1, FW, rfl, hi1, rfl, H⟩
  refine zg zm ?_
  refine CW.seq (fun K9 h9 => ?_)
  refine CW.seq fun K10 h10 => zr ?_
  refine zg (zt iM (zt iM (zt iVV ilt))) (zn h10 ?_); try clear h10
  refine CW.cond rfl (fun hc2 => ?_) (fun hc2 => ?_)
  · try simp only [zb] at hc2
    refine CW.skip ?_
    refine thenE_norm (h9 _ _ ?_); clear h9; try clear K9
    refine CW.seq (fun K11 h11 => ?_)
    refine CW.block ?_
    refine CW.seq (fun K12 h12 => ?_)
    obtain ⟨a, ha⟩ := get_of_lt (show (i1 : Int).toNat < evs.length by omega)
    refine CW.region ?_
    refine zg (zt iM (zt iM (zt iI (zt (fB 0) (zt iL ine))))) (zc [5, 6, 7, 9, 41] h12 fun σ => zg zm ?_); try clear h12
    refine CW.cond rfl (fun hc3 => ?_) (fun hc3 => ?_)
    · try simp only [zb] at hc3
      refine CW.region ?_
      refine zg (zt iM (zt iM (zt iM iI))) ?_
      refine zg (zk (r_loadA rfl Tryz.isAgg35 Tryz.sizeOf35 rfl (by first | exact Rs.cells0 RS (by assumption)) (by rfl))) ?_
      refine r_call rfl Tryz.call9 HS (Do_c a _ (SH.prop H (i := 3) rfl) (by omega) (by omega) ((SH.prop H (i := 2) rfl a (List.mem_of_getElem? ha)).resolve_left (by omega)) (((SH.val H).1 _ (At.mem (i := 2) rfl)).lt) (fun b h1 h2 => (SH.val H).apart (i := 2) (j := 3) rfl rfl (by decide) (.inl trivial) b h1 h2)) ?_
      rintro _ w10_5 ⟨x10_5, F10_5, rfl, K⟩
      refine ⟨_, rfl, ?_⟩
      replace H := SH.updP H (i := 3) rfl K
      clear K
      try dsimp only [replC, List.cons_append, List.nil_append, List.append_nil] at H
      refine LW.nil ?_
      refine blockE_norm ?_
      refine thenE_norm (h11 _ _ ?_); clear h11; try clear K11
      refine CW.region ?_
      refine zg (zt iM (zt iP iA)) ?_
      refine LW.nil ?_
      refine thenE_norm ⟨rfl, ?_⟩
      exact ⟨_, by omega, i1 + 1, _, rfl, by omega, rfl, H⟩
    · try simp only [zb] at hc3
      refine CW.skip ?_
      refine blockE_norm ?_
      refine thenE_norm (h11 _ _ ?_); clear h11; try clear K11
      refine CW.region ?_
      refine zg (zt iM (zt iP iA)) ?_
      refine LW.nil ?_
      refine thenE_norm ⟨rfl, ?_⟩
      exact ⟨_, by omega, i1 + 1, FW, rfl, by omega, rfl, SH.cast (d := .P FW (WorldA R C p (i1 + 1) (i1 + 1) FW)) H (i := 3) rfl (fun h => h) (fun b hb => hb) WorldA.st (fun h => WorldA.up1 h)⟩
  · try simp only [zb] at hc2
    refine CW.exit (thenE_exit (thenE_exit (blockE_hit ?_)))
    refine thenE_norm (h7 _ _ ?_); clear h7; try clear K7
    refine CW.seq (fun K13 h13 => ?_)
    refine CW.seq (fun K14 h14 => ?_)
    obtain ⟨⟨cf', vR, vC, pc, pn, vS, en, va, vd, vk, rs, cs, gR, gC, FR, FC, Fk, ms, lost, FN, bs, gS, ga, gd, gk⟩, hok, hA⟩ := SH.prop H (i := 3) rfl
    replace H := SH.unpack H (i := 3) rfl hA
    clear hA
    have hR7 : R ≤ 7 := by rcases hR with rfl | rfl | rfl | rfl <;> omega
    have hrl : rs.length = R := hok.rs
    have hcl : cs.length = C := hok.cs
    dsimp only [WS.L, WS.cells, replC, List.cons_append, List.nil_append, List.append_nil] at H
    refine CW.region ?_
    refine zg iA (zn h14 ?_); try clear h14
    refine CW.block ?_
    refine CW.loopR [5, 7] [10] (fun m vs w' => ∃ (i : Nat) (FR : Nat → Prop), vs = [.int .i64 i] ∧ i ≤ R ∧ m = R - i ∧ SH Non Any w w' (.B b1_2 24 [.int .i64 R, .int .i64 (cf 0), .int .i64 (cf 1), .int .i64 (cf 2), .int .i64 (cf 3), .int .i64 (cf 4), .int .i64 (cf 5), .int .i64 (cf 6), .int .i64 (cf 7), .int .i64 (cf 8), .int .i64 (cf 9)] :: (⟨cf', vR, vC, pc, pn, vS, en, va, vd, vk, rs, cs, gR, gC, FR, FC, Fk, ms, lost, FN, bs, gS, ga, gd, gk⟩ : WS).L R C p)) (R) ?_ ?_
    · exact ⟨0, FR, rfl, by omega, rfl, SH.sel H [0, 3, 4, 5, 6, 7, 8, 9, 10, 11, 12, 13] (by decide) rfl⟩
    try clear H
    rintro n2 vs2 wL2 σ ⟨i, FR', rfl, hi, rfl, H⟩
    refine zg zm ?_
    have hok' : WS.Ok ⟨cf', vR, vC, pc, pn, vS, en, va, vd, vk, rs, cs, gR, gC, FR', FC, Fk, ms, lost, FN, bs, gS, ga, gd, gk⟩ R C i1 i1 := ⟨hok.1, hok.2, hok.3, hok.4, hok.5, hok.6, hok.7, hok.8, hok.9, hok.10, hok.11, hok.12, hok.13⟩
    dsimp only [WS.L, WS.cells] at H
    refine CW.seq (fun K15 h15 => ?_)
    refine CW.seq fun K16 h16 => zr ?_
    refine zg (zt iM (zt (fA 0) (zt iL ilt))) (zn h16 ?_); try clear h16
    refine CW.cond rfl (fun hc4 => ?_) (fun hc4 => ?_)
    · try simp only [zb] at hc4
      refine CW.skip ?_
      refine thenE_norm (h15 _ _ ?_); clear h15; try clear K15
      refine CW.seq (fun K17 h17 => ?_)
      refine CW.block ?_
      refine CW.seq (fun K18 h18 => ?_)
      obtain ⟨q, hq⟩ := get_of_lt (show i < rs.length by omega)
      have hid : i < R := by omega
      refine CW.region ?_
      refine zg (zt iM iM) ?_
      refine r_call rfl Tryz.call20 HS (replica_c (i := i) ⟨cf', vR, vC, pc, pn, vS, en, va, vd, vk, rs, cs, gR, gC, FR', FC, Fk, ms, lost, FN, bs, gS, ga, gd, gk⟩ _ hok' (SH.objA (SH.sel H [1, 2, 3, 4, 5, 6, 7, 8, 9, 10, 11] (by decide) rfl)) hq) ?_
      rintro _ w14_2 ⟨rfl, X⟩
      refine ⟨_, rfl, ?_⟩
      replace H := SH.same H X
      clear X
      refine zg (zt iM (zt iE (zt iE (zt iA iA)))) (zc [5, 7, 10, 11, 12] h18 fun σ => zg zm ?_); try clear h18
      refine CW.seq fun K19 h19 => zr ?_
      refine zg (zt iM (zt iN iM)) ?_
      refine LW.known (t := 62) (c := false) rfl (by first | rfl | (simp only [zd]; omega) | simp_all) (fun hg15_3 => ?_)
      refine LW.want rfl rfl hg15_3 ?_
      refine zg iM ?_
      refine LW.want rfl rfl hg15_3 ?_
      refine zg (zk (r_eqlP rfl Tryz.underlying60 rfl rfl)) ?_
      refine zg (zt (zk (r_pickF rfl rfl hg15_3)) iM) ?_
      refine LW.known (t := 66) (c := false) rfl (by first | rfl | (simp only [zd]; omega) | simp_all) (fun hg15_7 => ?_)
      refine LW.want rfl rfl hg15_7 ?_
      refine zg iM ?_
      obtain ⟨Fq, Fr, H⟩ := SH.lstOpen (RepQ.ok R) H (j := 3) rfl hq
      dsimp only [replC, List.cons_append, List.nil_append, List.append_nil] at H
      refine LW.want rfl rfl hg15_7 ?_
      refine r_call rfl Tryz.call21 HS (rDone hR hid (SH.prop H (i := 3) rfl)) ?_
      rintro _ w15_8 ⟨F15_8, rfl, K⟩
      refine ⟨_, rfl, ?_⟩
      replace H := SH.updP H (i := 3) rfl K
      clear K
      try dsimp only [replC, List.cons_append, List.nil_append, List.append_nil] at H
      refine LW.want rfl rfl hg15_7 ?_
      refine zg ine ?_
      refine zg (zt (zk (r_pickF rfl rfl hg15_7)) iM) ?_
      refine LW.known (t := 71) (c := false) rfl (by first | rfl | (simp only [zd]; omega) | simp_all) (fun hg15_12 => ?_)
      refine LW.want rfl rfl hg15_12 ?_
      refine zg iM ?_
      refine LW.want rfl rfl hg15_12 ?_
      refine r_call rfl Tryz.call22 HS (rView hR hid (SH.prop H (i := 3) rfl)) ?_
      rintro _ w15_13 ⟨F15_13, rfl, K⟩
      refine ⟨_, rfl, ?_⟩
      replace H := SH.updP H (i := 3) rfl K
      clear K
      try dsimp only [replC, List.cons_append, List.nil_append, List.append_nil] at H
      refine LW.want rfl rfl hg15_12 ?_
      refine zg ine ?_
      refine zg (zt (zk (r_pickF rfl rfl hg15_12)) iM) ?_
      refine LW.known (t := 76) (c := false) rfl (by first | rfl | (simp only [zd]; omega) | simp_all) (fun hg15_17 => ?_)
      refine LW.want rfl rfl hg15_17 ?_
      refine zg iM ?_
      refine LW.want rfl rfl hg15_17 ?_
      refine zg iM ?_
      obtain ⟨FR2, H⟩ := SH.lstClose (RepQ.ok R) (SH.sel H [3, 4, 0, 1, 2, 5, 6, 7, 8, 9, 10, 11, 12] (by decide) rfl) hq
      replace H := SH.sel H [1, 2, 3, 0, 4, 5, 6, 7, 8, 9, 10, 11] (by decide) rfl
      dsimp only [pickC, nthC] at H
      have hok2 : WS.Ok ⟨cf', vR, vC, pc, pn, vS, en, va, vd, vk, rs, cs, gR, gC, FR2, FC, Fk, ms, lost, FN, bs, gS, ga, gd, gk⟩ R C i1 i1 := ⟨hok.1, hok.2, hok.3, hok.4, hok.5, hok.6, hok.7, hok.8, hok.9, hok.10, hok.11, hok.12, hok.13⟩
      refine LW.want rfl rfl hg15_17 ?_
      refine r_call rfl Tryz.call23 HS (ran_c (i := i) ⟨cf', vR, vC, pc, pn, vS, en, va, vd, vk, rs, cs, gR, gC, FR2, FC, Fk, ms, lost, FN, bs, gS, ga, gd, gk⟩ _ hok2 (SH.objA (SH.sel H [1, 2, 3, 4, 5, 6, 7, 8, 9, 10, 11] (by decide) rfl)) hid) ?_
      rintro _ w15_19 ⟨rfl, X⟩
      refine ⟨_, rfl, ?_⟩
      replace H := SH.same H X
      clear X
      refine LW.want rfl rfl hg15_17 ?_
      refine zg iVV ?_
      refine LW.want rfl rfl hg15_17 ?_
      refine zg ine ?_
      refine zg (zt (zk (r_pickF rfl rfl hg15_17)) iM) ?_
      refine LW.known (t := 83) (c := false) rfl (by first | rfl | (simp only [zd]; omega) | simp_all) (fun hg15_24 => ?_)
      refine LW.want rfl rfl hg15_24 ?_
      refine zg iM ?_
      obtain ⟨Fq2, Fr2, H⟩ := SH.lstOpen (RepQ.ok R) H (j := 3) rfl hq
      dsimp only [replC, List.cons_append, List.nil_append, List.append_nil] at H
      refine LW.want rfl rfl hg15_24 ?_
      refine r_call rfl Tryz.call25 HS (rState hR hid (SH.prop H (i := 3) rfl)) ?_
      rintro _ w15_25 ⟨F15_25, rfl, K⟩
      refine ⟨_, rfl, ?_⟩
      replace H := SH.updP H (i := 3) rfl K
      clear K
      try dsimp only [replC, List.cons_append, List.nil_append, List.append_nil] at H
      refine LW.want rfl rfl hg15_24 ?_
      refine zg (zk (r_buildQ rfl Tryz.underlying70 Tryz.zeroValue70 rfl (pl := [(0, 1), (1, 1), (2, 1), (3, 1), (4, 1), (5, 1)]) (by intro w; simp [go_sem]) (qs := []) (cs := [.int .i64 0, .int .i64 0, .int .i64 0, .slice none 0 0, .slice none 0 0, .slice none 0 0]) trivial rfl)) ?_
      refine LW.want rfl rfl hg15_24 ?_
      refine r_call rfl Tryz.call24 HS (Same0_c _) ?_
      rintro _ w15_27 ⟨rfl, X⟩
      refine ⟨_, rfl, ?_⟩
      replace H := SH.same H X
      clear X
      refine LW.want rfl rfl hg15_24 ?_
      refine zg iN ?_
      refine zg (zt (zk (r_pickF rfl rfl hg15_24)) iM) ?_
      refine LW.known (t := 90) (c := false) rfl (by first | rfl | (simp only [zd]; omega) | simp_all) (fun hg15_31 => ?_)
      refine LW.want rfl rfl hg15_31 ?_
      refine zg iM ?_
      refine LW.want rfl rfl hg15_31 ?_
      refine r_call rfl Tryz.call26 HS (rQueue hR hid (SH.prop H (i := 3) rfl)) ?_
      rintro _ w15_32 ⟨F15_32, rfl, K⟩
      refine ⟨_, rfl, ?_⟩
      replace H := SH.updP H (i := 3) rfl K
      clear K
      try dsimp only [replC, List.cons_append, List.nil_append, List.append_nil] at H
      refine LW.want rfl rfl hg15_31 ?_
      refine zg iVV ?_
      refine LW.want rfl rfl hg15_31 ?_
      refine zg ine ?_
      refine zg (zk (r_pickF rfl rfl hg15_31)) (zc [5, 7, 10, 95] h19 fun σ => zg zm ?_); try clear h19
      refine CW.condF rfl (by first | rfl | (simp only [zd]; omega) | simp_all) ?_
      refine CW.skip ?_
      refine blockE_norm ?_
      refine thenE_norm (h17 _ _ ?_); clear h17; try clear K17
      refine CW.region ?_
      refine zg (zt iM (zt iP iA)) ?_
      refine LW.nil ?_
      refine thenE_norm ⟨rfl, ?_⟩
      obtain ⟨FR3, H⟩ := SH.lstClose (RepQ.ok R) (SH.sel H [3, 4, 0, 1, 2, 5, 6, 7, 8, 9, 10, 11, 12] (by decide) rfl) hq
      exact ⟨_, by omega, i + 1, FR3, rfl, by omega, rfl, SH.sel H [1, 2, 3, 0, 4, 5, 6, 7, 8, 9, 10, 11] (by decide) rfl⟩
    · try simp only [zb] at hc4
      refine CW.exit (thenE_exit (thenE_exit (blockE_hit ?_)))
      refine thenE_norm (h13 _ _ ?_); clear h13; try clear K13
      refine CW.seq (fun K20 h20 => ?_)
      refine CW.seq fun K21 h21 => zr ?_
      refine zg iA (zn h21 ?_); try clear h21
      refine CW.block ?_
      refine CW.loopR [5, 7] [13] (fun m vs w' => ∃ i : Nat, vs = [.int .i64 i] ∧ i ≤ C ∧ m = C - i ∧ SH Non Any w w' (.B b1_2 24 [.int .i64 R, .int .i64 (cf 0), .int .i64 (cf 1), .int .i64 (cf 2), .int .i64 (cf 3), .int .i64 (cf 4), .int .i64 (cf 5), .int .i64 (cf 6), .int .i64 (cf 7), .int .i64 (cf 8), .int .i64 (cf 9)] :: (⟨cf', vR, vC, pc, pn, vS, en, va, vd, vk, rs, cs, gR, gC, FR', FC, Fk, ms, lost, FN, bs, gS, ga, gd, gk⟩ : WS).L R C p)) (C) ?_ ?_
      · exact ⟨0, rfl, by omega, rfl, H⟩
      try clear H
      rintro n3 vs3 wL3 σ ⟨i3, rfl, hi3, rfl, H⟩
      refine zg zm ?_
      dsimp only [WS.L, WS.cells] at H
      refine CW.seq (fun K22 h22 => ?_)
      refine CW.seq fun K23 h23 => zr ?_
      refine zg (zt iM (zt (fA 1) (zt iL ilt))) (zn h23 ?_); try clear h23
      refine CW.cond rfl (fun hc6 => ?_) (fun hc6 => ?_)
      · try simp only [zb] at hc6
        refine CW.skip ?_
        refine thenE_norm (h22 _ _ ?_); clear h22; try clear K22
        refine CW.seq (fun K24 h24 => ?_)
        refine CW.block ?_
        refine CW.seq fun K25 h25 => zr ?_
        refine zg (zt iM iM) ?_
        refine r_call rfl Tryz.call27 HS (said_c (i := i3) ⟨cf', vR, vC, pc, pn, vS, en, va, vd, vk, rs, cs, gR, gC, FR', FC, Fk, ms, lost, FN, bs, gS, ga, gd, gk⟩ _ hok' (SH.objA (SH.sel H [1, 2, 3, 4, 5, 6, 7, 8, 9, 10, 11] (by decide) rfl)) (by omega)) ?_
        rintro _ w20_2 ⟨rfl, X⟩
        refine ⟨_, rfl, ?_⟩
        replace H := SH.same H X
        clear X
        refine zg (zt iVV ine) (zc [5, 7, 13, 106] h25 fun σ => zg zm ?_); try clear h25
        refine CW.condF rfl (by first | rfl | (simp only [zd]; omega) | simp_all) ?_
        refine CW.skip ?_
        refine blockE_norm ?_
        refine thenE_norm (h24 _ _ ?_); clear h24; try clear K24
        refine CW.region ?_
        refine zg (zt iM (zt iP iA)) ?_
        refine LW.nil ?_
        refine thenE_norm ⟨rfl, ?_⟩
        exact ⟨_, by omega, i3 + 1, rfl, by omega, rfl, H⟩
      · try simp only [zb] at hc6
        refine CW.exit (thenE_exit (thenE_exit (blockE_hit ?_)))
        refine thenE_norm (h20 _ _ ?_); clear h20; try clear K20
        refine CW.seq fun K26 h26 => zr ?_
        refine zg (zk (r_buildQ rfl Tryz.underlying80 Tryz.zeroValue80 rfl (pl := [(0, 1), (1, 2), (3, 6)]) (by intro w; simp [go_sem]) (qs := []) (cs := [.int .i64 0, .int .i64 0, .int .i64 0, .int .i64 0, .int .i64 0, .int .i64 0, .slice none 0 0, .slice none 0 0, .slice none 0 0]) trivial rfl)) ?_
        refine zg (zk (r_loadA rfl Tryz.isAgg24 Tryz.sizeOf24 rfl (by first | exact SH.cells H AT) (by rfl))) ?_
        refine r_call rfl Tryz.call29 HS (Behind_c hR hcf _) ?_
        rintro _ w22_2 ⟨rfl, X⟩
        refine ⟨_, rfl, ?_⟩
        replace H := SH.same H X
        clear X
        refine r_call rfl Tryz.call28 HS (SameSnap_c _) ?_
        rintro _ w22_3 ⟨rfl, X⟩
        refine ⟨_, rfl, ?_⟩
        replace H := SH.same H X
        clear X
        refine zg iM ?_
        refine LW.known (t := 111) (c := true) rfl (by first | rfl | (simp only [zd]; omega) | simp_all) (fun hg22_5 => ?_)
        refine LW.want rfl rfl hg22_5 ?_
        refine r_call rfl Tryz.call11 HS (awake_c _) ?_
        rintro _ w22_5 ⟨rfl, X⟩
        refine ⟨_, rfl, ?_⟩
        replace H := SH.same H X
        clear X
        refine zg (zt (zk (r_pickT rfl rfl hg22_5)) iA) (zc [4] h26 fun σ => zg zm ?_); try clear h26
        refine CW.ret (ret1 Tryz.results5 EV ?_)
        exact ⟨rfl, H.ext⟩
end Go.Proofs.YtgmmbdmdimkfjaaGreat
