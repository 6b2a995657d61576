/-
  A world's step: what a host does by itself
-/
import Derived.Test.YtgmmbdmdimkfjaaGreatPI31
import Derived.Test.YtgmmbdmdimkfjaaGreatPI05
namespace Go.Proofs.YtgmmbdmdimkfjaaGreat
set_option linter.unusedSimpArgs false
set_option linter.unusedVariables false
set_option maxRecDepth 20000
open Go.V Go.RowKit Go.ChangeShapes Go.WideShapes
theorem SndsA.nil {F : Nat → Prop} {w : World} : SndsA F (.slice none 0 0) [] w := ⟨[], Sl.nil, trivial⟩
set_option maxHeartbeats 4000000 in
theorem step_c {R C p k j : Nat} {F : Nat → Prop} (a : Ev) (w : World) (h : WorldA R C p k j F w) (hj : j ≤ 1000) : Calls Tryz.prog 94 #[.pointer (some ⟨p, 0, none⟩), agg a] w fun e w' => ∃ x F', e = .returned (.int .i64 x) ∧ SH F Non w w' [.P F' (WorldA R C p k (j + 1) F')] := by
  obtain ⟨⟨cf, vR, vC, pc, pn, vS, en, va, vd, vk, rs, cs, gR, gC, FR, FC, Fk, ms, lost, FN, bs, gS, ga, gd, gk⟩, hok, hA⟩ := h
  have H := SH.obj (G := Any) hA
  have hl0 : 0 ≤ lost := hok.l0
  have hl1 : lost ≤ 20 * j := hok.l1
  have hRr : okR R := hok.okR
  have hR7 : R ≤ 7 := by rcases hRr with rfl | rfl | rfl | rfl <;> omega
  have hrl : rs.length = R := hok.rs
  have hcl : cs.length = C := hok.cs
  have hC5 := hok.c5
  have hfl : FlOK R ms := hok.fl
  have hpl := ptrs_len rs
  have hpl2 := ptrs_len cs
  dsimp only [WS.L, WS.cells] at H
  refine calls_of_CW Tryz.func94 rfl Tryz.ntmps94 (Nat.le_of_ble_eq_true rfl) ?_
  simp only [argE, argFrom, Nat.reduceAdd]
  refine CW.seq fun K1 h1 => zr ?_
  refine s_box H rfl EV rfl ?_
  clear H
  intro b0_0 w0_0 H
  try dsimp only [replC, List.cons_append, List.nil_append, List.append_nil, agg, cellsL, Value.cells, List.toList_toArray, List.set_cons_zero, List.set_cons_succ, spliceL, List.take_succ_cons, List.take_zero, List.drop_succ_cons, List.drop_zero, List.length_cons, List.length_nil, Nat.reduceAdd, Row.cells, Flight.L, Hd.L, Snd.L, Ev.L] at H
  refine zg iA (zn h1 ?_); try clear h1
  refine CW.seq (fun K2 h2 => ?_)
  refine CW.seq fun K3 h3 => zr ?_
  refine zg (zt iM (zt (fA 1) iL)) ?_
  refine r_call rfl Tryz.call139 HS (there_c _ _ ⟨⟨cf, vR, vC, pc, pn, vS, en, va, vd, vk, rs, cs, gR, gC, FR, FC, Fk, ms, lost, FN, bs, gS, ga, gd, gk⟩, hok, SH.objA (SH.sel H [0, 1, 2, 3, 4, 5, 6, 7, 8, 9, 10] (by decide) rfl)⟩) ?_
  rintro _ w1_3 ⟨x1_3, hx1_3, rfl, rfl⟩
  refine ⟨_, rfl, ?_⟩
  refine zg iA (zn h3 ?_); try clear h3
  refine CW.seq fun K4 h4 => zr ?_
  refine zg (zt iM ine) (zc [0, 3, 5, 19] h4 fun σ => zg zm ?_); try clear h4
  refine CW.cond rfl (fun hc1 => ?_) (fun hc1 => ?_)
  · try simp only [zb] at hc1
    refine CW.seq fun K5 h5 => zr ?_
    refine zg (zt iM iA) (zn h5 ?_); try clear h5
    refine CW.ret (tR (ret1 Tryz.results94 EV ?_))
    obtain ⟨F', K⟩ := WorldA.mk (k := k) (j := j + 1) ⟨cf, vR, vC, pc, pn, vS, en, va, vd, vk, rs, cs, gR, gC, FR, FC, Fk, ms, lost, FN, bs, gS, ga, gd, gk⟩ ⟨hok.1, hok.2, hok.3, hok.4, hok.5, hok.6, hok.7, hok.8, hok.9, hok.10, hok.11, hok.12, by show lost ≤ _; omega⟩ (SH.sel H [0, 1, 2, 3, 4, 5, 6, 7, 8, 9, 10] (by decide) rfl)
    exact ⟨_, _, rfl, K⟩
  · try simp only [zb] at hc1
    refine CW.skip ?_
    refine thenE_norm (h2 _ _ ?_); clear h2; try clear K2
    refine CW.seq (fun K6 h6 => ?_)
    have hh := hx1_3 (by omega)
    refine CW.drawH [] H (List.Sublist.refl _) (by kernel_rfl) rfl ?_
    clear H
    intro w4d H
    refine DL.take (i := 0) [] rfl (by kernel_rfl) (by kernel_rfl) (by kernel_rfl) (by kernel_rfl) rfl rfl (fun u H => x_move ) H ?_
    refine DL.take (i := 1) [] rfl (by kernel_rfl) (by kernel_rfl) (by kernel_rfl) (by kernel_rfl) rfl rfl (fun u H => x_nilCheck rfl) H ?_
    refine DL.take (i := 2) [] rfl (by kernel_rfl) (by kernel_rfl) (by kernel_rfl) (by kernel_rfl) rfl rfl (fun u H => x_fieldAddrO Tryz.underlying104 rfl Tryz.sizeOf93 (by decide) (show _ = 13 from rfl) rfl) H ?_
    refine DL.take (i := 3) [] rfl (by kernel_rfl) (by kernel_rfl) (by kernel_rfl) (by kernel_rfl) rfl rfl (fun u H => x_load Tryz.isAgg93 rfl (by first | exact SH.cellB H AT (by rfl) | exact SH.cellI H AT (by rfl) | assumption)) H ?_
    refine DL.take (i := 4) [] rfl (by kernel_rfl) (by kernel_rfl) (by kernel_rfl) (by kernel_rfl) rfl rfl (fun u H => x_fieldAddrO Tryz.underlying35 rfl Tryz.sizeOf3 (by decide) (show _ = 1 from rfl) rfl) H ?_
    refine DL.take (i := 5) [] rfl (by kernel_rfl) (by kernel_rfl) (by kernel_rfl) (by kernel_rfl) rfl rfl (fun u H => x_load Tryz.isAgg3 rfl (by first | exact SH.cellB H AT (by rfl) | assumption)) H ?_
    refine DL.one (i := 6) (by kernel_rfl) rfl rfl ?_
    refine r_call rfl Tryz.call111 HS (ClockNow_c _ _ (SH.prop H AT)) ?_
    rintro _ w4_6 ⟨x4_6, rfl, rfl⟩
    refine ⟨_, rfl, ?_⟩
    refine LW.nil (thenE_norm ⟨fun _ => (SH.sub H SB), ?_⟩)
    refine DL.take (i := 7) [] rfl (by kernel_rfl) (by kernel_rfl) (by kernel_rfl) (by kernel_rfl) rfl rfl (fun u H => x_assign ) (SH.sub H SB) ?_
    refine DL.done (by kernel_rfl) ?_
    refine thenE_norm ?_
    refine cut (K := K6) [0, 3, 6] (fun σ => ?_)
    refine zg zm ?_
    refine h6 _ _ ?_; clear h6; try clear K6
    refine CW.seq (fun K7 h7 => ?_)
    refine CW.seq (fun K8 h8 => ?_)
    refine CW.drawH [] H (List.Sublist.refl _) (by kernel_rfl) rfl ?_
    clear H
    intro w5d H
    refine DL.take (i := 0) [] rfl (by kernel_rfl) (by kernel_rfl) (by kernel_rfl) (by kernel_rfl) rfl rfl (fun u H => x_fieldAddrO Tryz.underlying35 rfl Tryz.sizeOf3 (by decide) (show _ = 1 from rfl) rfl) H ?_
    refine DL.take (i := 1) [] rfl (by kernel_rfl) (by kernel_rfl) (by kernel_rfl) (by kernel_rfl) rfl rfl (fun u H => x_load Tryz.isAgg3 rfl (by first | exact SH.cellB H AT (by rfl) | assumption)) H ?_
    refine DL.take (i := 2) [] rfl (by kernel_rfl) (by kernel_rfl) (by kernel_rfl) (by kernel_rfl) rfl rfl (fun u H => x_move ) H ?_
    refine DL.take (i := 3) [] rfl (by kernel_rfl) (by kernel_rfl) (by kernel_rfl) (by kernel_rfl) rfl rfl (fun u H => x_nilCheck rfl) H ?_
    refine DL.take (i := 4) [] rfl (by kernel_rfl) (by kernel_rfl) (by kernel_rfl) (by kernel_rfl) rfl rfl (fun u H => x_fieldAddrO Tryz.underlying104 rfl Tryz.sizeOf24 (by decide) (show _ = 0 from rfl) rfl) H ?_
    refine DL.take (i := 5) [] rfl (by kernel_rfl) (by kernel_rfl) (by kernel_rfl) (by kernel_rfl) rfl rfl (fun u H => x_fieldAddrO Tryz.underlying24 rfl Tryz.sizeOf3 (by decide) (show _ = 0 from rfl) rfl) H ?_
    refine DL.take (i := 6) [] rfl (by kernel_rfl) (by kernel_rfl) (by kernel_rfl) (by kernel_rfl) rfl rfl (fun u H => x_load Tryz.isAgg3 rfl (by first | exact SH.cellB H AT (by rfl) | exact SH.cellI H AT (by rfl) | assumption)) H ?_
    refine DL.take (i := 7) [] rfl (by kernel_rfl) (by kernel_rfl) (by kernel_rfl) (by kernel_rfl) rfl rfl (fun u H => x_lss rfl rfl) H ?_
    refine DL.done (by kernel_rfl) ?_
    refine thenE_norm ?_
    refine cut (K := K8) [0, 3, 6, 35] (fun σ => ?_)
    refine zg zm ?_
    refine h8 _ _ ?_; clear h8; try clear K8
    refine CW.cond rfl (fun hc2 => ?_) (fun hc2 => ?_)
    · try simp only [zb] at hc2
      refine CW.seq (fun K9 h9 => ?_)
      obtain ⟨q, hq⟩ := get_of_lt (show a.host.toNat < rs.length by omega)
      have hpq := ptrs_get hq
      have hid : a.host.toNat < R := by omega
      obtain ⟨Fq, Fr, H⟩ := SH.lstOpen (RepQ.ok R) H (j := 2) rfl hq
      dsimp only [replC, List.cons_append, List.nil_append, List.append_nil] at H
      refine CW.drawP [0, 1, 3, 4, 5, 6, 7, 8, 9, 10, 11, 12] [] H (by dsimp only [pickC, nthC] <;> rfl) SB (by kernel_rfl) rfl ?_
      clear H
      intro w6d H
      refine DL.take (i := 0) [] rfl (by kernel_rfl) (by kernel_rfl) (by kernel_rfl) (by kernel_rfl) rfl rfl (fun u H => x_move ) (SH.sub H SB) ?_
      refine DL.take (i := 1) [] rfl (by kernel_rfl) (by kernel_rfl) (by kernel_rfl) (by kernel_rfl) rfl rfl (fun u H => x_nilCheck rfl) (SH.sub H SB) ?_
      refine DL.take (i := 2) [] rfl (by kernel_rfl) (by kernel_rfl) (by kernel_rfl) (by kernel_rfl) rfl rfl (fun u H => x_fieldAddrO Tryz.underlying104 rfl Tryz.sizeOf100 (by decide) (show _ = 11 from rfl) rfl) (SH.sub H SB) ?_
      refine DL.take (i := 3) [] rfl (by kernel_rfl) (by kernel_rfl) (by kernel_rfl) (by kernel_rfl) rfl rfl (fun u H => x_load Tryz.isAgg100 rfl (by first | exact SH.cellB H AT (by rfl) | exact SH.cellI H AT (by rfl) | assumption)) (SH.sub H SB) ?_
      refine DL.take (i := 4) [] rfl (by kernel_rfl) (by kernel_rfl) (by kernel_rfl) (by kernel_rfl) rfl rfl (fun u H => x_fieldAddrO Tryz.underlying35 rfl Tryz.sizeOf3 (by decide) (show _ = 1 from rfl) rfl) (SH.sub H SB) ?_
      refine DL.take (i := 5) [] rfl (by kernel_rfl) (by kernel_rfl) (by kernel_rfl) (by kernel_rfl) rfl rfl (fun u H => x_load Tryz.isAgg3 rfl (by first | exact SH.cellB H AT (by rfl) | assumption)) (SH.sub H SB) ?_
      refine DL.take (i := 6) [] rfl (by kernel_rfl) (by kernel_rfl) (by kernel_rfl) (by kernel_rfl) rfl rfl (fun u H => x_indexAddrV Tryz.underlying100 EV rfl RS (by exact Tryz.sizeOf60) (by omega) (by omega)) (SH.sub H SB) ?_
      refine DL.take (i := 7) [] rfl (by kernel_rfl) (by kernel_rfl) (by kernel_rfl) (by kernel_rfl) rfl rfl (fun u H => x_load Tryz.isAgg60 rfl (by first | exact Rs.cell RS (by assumption) (by rfl) | exact Rs.cell0 RS (by assumption) (by rfl) | assumption)) (SH.sub H SB) ?_
      refine DL.one (i := 8) (by kernel_rfl) rfl rfl ?_
      refine r_call rfl Tryz.call21 HS (rDone hRr hid (SH.prop H (i := 2) rfl)) ?_
      rintro _ w6_8 ⟨F6_8, rfl, K⟩
      refine ⟨_, rfl, ?_⟩
      replace H := SH.updP H (i := 2) rfl K
      clear K
      try dsimp only [replC, List.cons_append, List.nil_append, List.append_nil] at H
      refine LW.nil (thenE_norm ⟨fun _ => (SH.sub H SB), ?_⟩)
      refine DL.take (i := 9) [] rfl (by kernel_rfl) (by kernel_rfl) (by kernel_rfl) (by kernel_rfl) rfl rfl (fun u H => x_assign ) (SH.sub H SB) ?_
      refine DL.done (by kernel_rfl) ?_
      refine thenE_norm ?_
      refine cut (K := K9) [0, 3, 6, 7] (fun σ => ?_)
      refine zg zm ?_
      refine h9 _ _ ?_; clear h9; try clear K9
      refine CW.seq (fun K10 h10 => ?_)
      refine CW.drawP [0, 1, 3, 4, 5, 6, 8, 9, 10, 11, 12] [] H (by dsimp only [pickC, nthC] <;> rfl) SB (by kernel_rfl) rfl ?_
      clear H
      intro w7d H
      refine DL.take (i := 0) [] rfl (by kernel_rfl) (by kernel_rfl) (by kernel_rfl) (by kernel_rfl) rfl rfl (fun u H => x_move ) (SH.sub H SB) ?_
      refine DL.take (i := 1) [] rfl (by kernel_rfl) (by kernel_rfl) (by kernel_rfl) (by kernel_rfl) rfl rfl (fun u H => x_fieldAddrO Tryz.underlying35 rfl Tryz.sizeOf3 (by decide) (show _ = 1 from rfl) rfl) (SH.sub H SB) ?_
      refine DL.take (i := 2) [] rfl (by kernel_rfl) (by kernel_rfl) (by kernel_rfl) (by kernel_rfl) rfl rfl (fun u H => x_load Tryz.isAgg3 rfl (by first | exact SH.cellB H AT (by rfl) | assumption)) (SH.sub H SB) ?_
      refine DL.take (i := 3) [] rfl (by kernel_rfl) (by kernel_rfl) (by kernel_rfl) (by kernel_rfl) rfl rfl (fun u H => x_move ) (SH.sub H SB) ?_
      refine DL.take (i := 4) [] rfl (by kernel_rfl) (by kernel_rfl) (by kernel_rfl) (by kernel_rfl) rfl rfl (fun u H => x_nilCheck rfl) (SH.sub H SB) ?_
      refine DL.take (i := 5) [] rfl (by kernel_rfl) (by kernel_rfl) (by kernel_rfl) (by kernel_rfl) rfl rfl (fun u H => x_fieldAddrO Tryz.underlying104 rfl Tryz.sizeOf100 (by decide) (show _ = 11 from rfl) rfl) (SH.sub H SB) ?_
      refine DL.take (i := 6) [] rfl (by kernel_rfl) (by kernel_rfl) (by kernel_rfl) (by kernel_rfl) rfl rfl (fun u H => x_load Tryz.isAgg100 rfl (by first | exact SH.cellB H AT (by rfl) | exact SH.cellI H AT (by rfl) | assumption)) (SH.sub H SB) ?_
      refine DL.take (i := 7) [] rfl (by kernel_rfl) (by kernel_rfl) (by kernel_rfl) (by kernel_rfl) rfl rfl (fun u H => x_fieldAddrO Tryz.underlying35 rfl Tryz.sizeOf3 (by decide) (show _ = 1 from rfl) rfl) (SH.sub H SB) ?_
      refine DL.take (i := 8) [] rfl (by kernel_rfl) (by kernel_rfl) (by kernel_rfl) (by kernel_rfl) rfl rfl (fun u H => x_load Tryz.isAgg3 rfl (by first | exact SH.cellB H AT (by rfl) | assumption)) (SH.sub H SB) ?_
      refine DL.take (i := 9) [] rfl (by kernel_rfl) (by kernel_rfl) (by kernel_rfl) (by kernel_rfl) rfl rfl (fun u H => x_indexAddrV Tryz.underlying100 EV rfl RS (by exact Tryz.sizeOf60) (by omega) (by omega)) (SH.sub H SB) ?_
      refine DL.take (i := 10) [] rfl (by kernel_rfl) (by kernel_rfl) (by kernel_rfl) (by kernel_rfl) rfl rfl (fun u H => x_load Tryz.isAgg60 rfl (by first | exact Rs.cell RS (by assumption) (by rfl) | exact Rs.cell0 RS (by assumption) (by rfl) | assumption)) (SH.sub H SB) ?_
      refine DL.take (i := 11) [] rfl (by kernel_rfl) (by kernel_rfl) (by kernel_rfl) (by kernel_rfl) rfl rfl (fun u H => x_move ) (SH.sub H SB) ?_
      refine DL.one (i := 12) (by kernel_rfl) rfl rfl ?_
      refine r_call rfl Tryz.call141 HS (rStep hRr hid _ (SH.prop H (i := 2) rfl)) ?_
      rintro _ w7_12 ⟨v7_12, ss7_12, F7_12, FS7_12, rfl, hss7_12, K⟩
      refine ⟨_, rfl, ?_⟩
      replace H := SH.updP H (i := 2) rfl K
      clear K
      try dsimp only [replC, List.cons_append, List.nil_append, List.append_nil] at H
      refine LW.nil (thenE_norm ⟨fun _ => (SH.sub H SB), ?_⟩)
      refine DL.one (i := 13) (by kernel_rfl) rfl rfl ?_
      refine r_call rfl Tryz.call140 HS (put_c (s := ⟨cf, vR, vC, pc, pn, vS, en, va, vd, vk, rs, cs, gR, gC, FR, FC, Fk, ms, lost, FN, bs, gS, ga, gd, gk⟩) _ _ (SH.blk H (i := 0) rfl) (SH.prop H (i := 8) rfl) (SH.prop H (i := 3) rfl) (fun b hb => (SH.val H).1 _ (At.mem (i := 3) rfl) |>.lt b hb) (fun hb => (SH.val H).apart (i := 0) (j := 8) rfl rfl (by decide) (.inl trivial) _ rfl hb) (fun b h1 h2 => (SH.val H).apart (i := 3) (j := 8) rfl rfl (by decide) (.inl trivial) b h1 h2) hss7_12.2 hss7_12.1 hfl hl0 (by omega)) ?_
      rintro _ w7_13 ⟨ms7_13, lost7_13, FN7_13, rfl, hf7_13, hl7_13, hm7_13, K⟩
      refine ⟨_, rfl, ?_⟩
      replace H := SH.updP H (i := 8) rfl K
      clear K
      try dsimp only [replC, List.cons_append, List.nil_append, List.append_nil] at H
      refine LW.nil (thenE_norm ⟨fun _ => (SH.sub H SB), ?_⟩)
      refine DL.done (by kernel_rfl) ?_
      refine thenE_norm ?_
      refine cut (K := K10) [0, 3, 7] (fun σ => ?_)
      refine zg zm ?_
      refine h10 _ _ ?_; clear h10; try clear K10
      refine CW.seq (fun K11 h11 => ?_)
      refine CW.seq (fun K12 h12 => ?_)
      refine CW.drawP [0, 1, 3, 4, 5, 6, 7, 8, 9, 10, 11, 12, 13] [] H (by dsimp only [pickC, nthC] <;> rfl) SB (by kernel_rfl) rfl ?_
      clear H
      intro w8d H
      refine DL.take (i := 0) [] rfl (by kernel_rfl) (by kernel_rfl) (by kernel_rfl) (by kernel_rfl) rfl rfl (fun u H => x_move ) (SH.sub H SB) ?_
      refine DL.take (i := 1) [] rfl (by kernel_rfl) (by kernel_rfl) (by kernel_rfl) (by kernel_rfl) rfl rfl (fun u H => x_nilCheck rfl) (SH.sub H SB) ?_
      refine DL.take (i := 2) [] rfl (by kernel_rfl) (by kernel_rfl) (by kernel_rfl) (by kernel_rfl) rfl rfl (fun u H => x_fieldAddrO Tryz.underlying104 rfl Tryz.sizeOf100 (by decide) (show _ = 11 from rfl) rfl) (SH.sub H SB) ?_
      refine DL.take (i := 3) [] rfl (by kernel_rfl) (by kernel_rfl) (by kernel_rfl) (by kernel_rfl) rfl rfl (fun u H => x_load Tryz.isAgg100 rfl (by first | exact SH.cellB H AT (by rfl) | exact SH.cellI H AT (by rfl) | assumption)) (SH.sub H SB) ?_
      refine DL.take (i := 4) [] rfl (by kernel_rfl) (by kernel_rfl) (by kernel_rfl) (by kernel_rfl) rfl rfl (fun u H => x_fieldAddrO Tryz.underlying35 rfl Tryz.sizeOf3 (by decide) (show _ = 1 from rfl) rfl) (SH.sub H SB) ?_
      refine DL.take (i := 5) [] rfl (by kernel_rfl) (by kernel_rfl) (by kernel_rfl) (by kernel_rfl) rfl rfl (fun u H => x_load Tryz.isAgg3 rfl (by first | exact SH.cellB H AT (by rfl) | assumption)) (SH.sub H SB) ?_
      refine DL.take (i := 6) [] rfl (by kernel_rfl) (by kernel_rfl) (by kernel_rfl) (by kernel_rfl) rfl rfl (fun u H => x_indexAddrV Tryz.underlying100 EV rfl RS (by exact Tryz.sizeOf60) (by omega) (by omega)) (SH.sub H SB) ?_
      refine DL.take (i := 7) [] rfl (by kernel_rfl) (by kernel_rfl) (by kernel_rfl) (by kernel_rfl) rfl rfl (fun u H => x_load Tryz.isAgg60 rfl (by first | exact Rs.cell RS (by assumption) (by rfl) | exact Rs.cell0 RS (by assumption) (by rfl) | assumption)) (SH.sub H SB) ?_
      refine DL.take (i := 9) [] rfl (by kernel_rfl) (by kernel_rfl) (by kernel_rfl) (by kernel_rfl) rfl rfl (fun u H => x_move ) (SH.sub H SB) ?_
      refine DL.one (i := 8) (by kernel_rfl) rfl rfl ?_
      refine r_call rfl Tryz.call21 HS (rDone hRr hid (SH.prop H (i := 2) rfl)) ?_
      rintro _ w8_8 ⟨F8_8, rfl, K⟩
      refine ⟨_, rfl, ?_⟩
      replace H := SH.updP H (i := 2) rfl K
      clear K
      try dsimp only [replC, List.cons_append, List.nil_append, List.append_nil] at H
      refine LW.nil (thenE_norm ⟨fun _ => (SH.sub H SB), ?_⟩)
      refine DL.take (i := 10) [] rfl (by kernel_rfl) (by kernel_rfl) (by kernel_rfl) (by kernel_rfl) rfl rfl (fun u H => x_neq rfl rfl) (SH.sub H SB) ?_
      refine DL.done (by kernel_rfl) ?_
      refine thenE_norm ?_
      refine cut (K := K12) [0, 3, 69] (fun σ => ?_)
      refine zg zm ?_
      refine h12 _ _ ?_; clear h12; try clear K12
      refine CW.condF rfl (by first | rfl | (simp only [zd]; omega) | simp_all) ?_
      refine CW.skip ?_
      refine thenE_norm (h11 _ _ ?_); clear h11; try clear K11
      refine CW.seq fun K13 h13 => zr ?_
      refine zg iA (zn h13 ?_); try clear h13
      refine CW.ret (tR (ret1 Tryz.results94 EV ?_))
      obtain ⟨FR', H2⟩ := SH.lstClose (RepQ.ok R) (SH.sel H [2, 4, 0, 1, 5, 6, 7, 8, 9, 10, 11, 12] (by decide) rfl) hq
      obtain ⟨F', K⟩ := WorldA.mk (k := k) (j := j + 1) ⟨cf, vR, vC, pc, pn, vS, en, va, vd, vk, rs, cs, gR, gC, FR', FC, Fk, ms7_13, lost7_13, FN7_13, bs, gS, ga, gd, gk⟩ ⟨hok.1, hok.2, hok.3, hok.4, hok.5, hok.6, hok.7, hok.8, hf7_13, hok.10, hok.11, by show 0 ≤ lost7_13; omega, by show lost7_13 ≤ _; omega⟩ (SH.sel H2 [1, 2, 0, 3, 4, 5, 6, 7, 8, 9, 10] (by decide) rfl)
      exact ⟨_, _, rfl, K⟩
    · try simp only [zb] at hc2
      refine CW.skip ?_
      refine thenE_norm (h7 _ _ ?_); clear h7; try clear K7
      refine CW.seq (fun K14 h14 => ?_)
      have hia : a.host.toNat - R < cs.length := by omega
      refine CW.drawH [] H (List.Sublist.refl _) (by kernel_rfl) rfl ?_
      clear H
      intro w11d H
      refine DL.take (i := 0) [] rfl (by kernel_rfl) (by kernel_rfl) (by kernel_rfl) (by kernel_rfl) rfl rfl (fun u H => x_fieldAddrO Tryz.underlying35 rfl Tryz.sizeOf3 (by decide) (show _ = 1 from rfl) rfl) H ?_
      refine DL.take (i := 1) [] rfl (by kernel_rfl) (by kernel_rfl) (by kernel_rfl) (by kernel_rfl) rfl rfl (fun u H => x_load Tryz.isAgg3 rfl (by first | exact SH.cellB H AT (by rfl) | assumption)) H ?_
      refine DL.take (i := 2) [] rfl (by kernel_rfl) (by kernel_rfl) (by kernel_rfl) (by kernel_rfl) rfl rfl (fun u H => x_move ) H ?_
      refine DL.take (i := 3) [] rfl (by kernel_rfl) (by kernel_rfl) (by kernel_rfl) (by kernel_rfl) rfl rfl (fun u H => x_nilCheck rfl) H ?_
      refine DL.take (i := 4) [] rfl (by kernel_rfl) (by kernel_rfl) (by kernel_rfl) (by kernel_rfl) rfl rfl (fun u H => x_fieldAddrO Tryz.underlying104 rfl Tryz.sizeOf24 (by decide) (show _ = 0 from rfl) rfl) H ?_
      refine DL.take (i := 5) [] rfl (by kernel_rfl) (by kernel_rfl) (by kernel_rfl) (by kernel_rfl) rfl rfl (fun u H => x_fieldAddrO Tryz.underlying24 rfl Tryz.sizeOf3 (by decide) (show _ = 0 from rfl) rfl) H ?_
      refine DL.take (i := 6) [] rfl (by kernel_rfl) (by kernel_rfl) (by kernel_rfl) (by kernel_rfl) rfl rfl (fun u H => x_load Tryz.isAgg3 rfl (by first | exact SH.cellB H AT (by rfl) | exact SH.cellI H AT (by rfl) | assumption)) H ?_
      refine DL.take (i := 7) [] rfl (by kernel_rfl) (by kernel_rfl) (by kernel_rfl) (by kernel_rfl) rfl rfl (fun u H => x_sub rfl rfl (wr_i64 (by omega) (by omega))) H ?_
      refine DL.take (i := 8) [] rfl (by kernel_rfl) (by kernel_rfl) (by kernel_rfl) (by kernel_rfl) rfl rfl (fun u H => x_assign ) H ?_
      refine DL.done (by kernel_rfl) ?_
      refine thenE_norm ?_
      refine cut (K := K14) [0, 3, 6, 8] (fun σ => ?_)
      refine zg zm ?_
      refine h14 _ _ ?_; clear h14; try clear K14
      refine CW.seq (fun K15 h15 => ?_)
      obtain ⟨q, hq⟩ := get_of_lt (show (a.host - R).toNat < cs.length by omega)
      have hpq := ptrs_get hq
      obtain ⟨Fq, Fr, H⟩ := SH.lstOpen CliQ.ok H (j := 4) rfl hq
      dsimp only [replC, List.cons_append, List.nil_append, List.append_nil] at H
      refine CW.region ?_
      refine zg (zt iM (zt iK (zt (fA 12) (zt iL (zt iM (zt iI (zt iL iA))))))) (zc [0, 3, 6, 8, 9] h15 fun σ => zg zm ?_); try clear h15
      refine CW.seq fun K16 h16 => zr ?_
      refine zg iM ?_
      refine r_call rfl Tryz.call143 HS (cOut (SH.prop H (i := 4) rfl)) ?_
      rintro _ w13_1 ⟨F13_1, rfl, K⟩
      refine ⟨_, rfl, ?_⟩
      replace H := SH.updP H (i := 4) rfl K
      clear K
      try dsimp only [replC, List.cons_append, List.nil_append, List.append_nil] at H
      refine zg (zt iM (zt iE iE)) ?_
      refine s_alloc (cs := [.int .i64 0, .int .i64 0, .int .i64 0, .int .i64 0, .string (ByteArray.mk #[])]) H rfl Tryz.zeroValue152 rfl ?_
      clear H
      intro b13_5 w13_5 H
      try dsimp only [replC, List.cons_append, List.nil_append, List.append_nil, agg, cellsL, Value.cells, List.toList_toArray, List.set_cons_zero, List.set_cons_succ, spliceL, List.take_succ_cons, List.take_zero, List.drop_succ_cons, List.drop_zero, List.length_cons, List.length_nil, Nat.reduceAdd, Row.cells, Flight.L, Hd.L, Snd.L, Ev.L] at H
      refine s_storeA H Tryz.sizeOf152 rfl EV (by simp only [cellsL, agg, List.toList_toArray, Row.cells, Flight.L, Hd.L, Snd.L, Ev.L] <;> rfl) (by rfl) (by first | rfl | assumption | exact Rs.oneC RS | (simp only [List.all_cons, List.all_nil, Bool.and_true, Bool.and_eq_true, Row.cells, Flight.L, Hd.L, Snd.L, Ev.L]; (repeat' constructor) <;> first | rfl | assumption | exact Rs.oneC RS)) AT (by first | (simp; done) | decide | (show _ ≤ _; decide)) ?_
      clear H
      intro w13_6 H
      try dsimp only [replC, List.cons_append, List.nil_append, List.append_nil, agg, cellsL, Value.cells, List.toList_toArray, List.set_cons_zero, List.set_cons_succ, spliceL, List.take_succ_cons, List.take_zero, List.drop_succ_cons, List.drop_zero, List.length_cons, List.length_nil, Nat.reduceAdd, Row.cells, Flight.L, Hd.L, Snd.L, Ev.L] at H
      refine zg iA (zc [0, 3, 6, 8, 9, 11] h16 fun σ => zg zm ?_); try clear h16
      refine CW.seq (fun K17 h17 => ?_)
      refine CW.drawP [0, 1, 2, 3, 5, 6, 8, 9, 10, 11, 12, 13] [] H (by dsimp only [pickC, nthC] <;> rfl) SB (by kernel_rfl) rfl ?_
      clear H
      intro w14d H
      refine DL.take (i := 0) [] rfl (by kernel_rfl) (by kernel_rfl) (by kernel_rfl) (by kernel_rfl) rfl rfl (fun u H => x_move ) (SH.sub H SB) ?_
      refine DL.take (i := 1) [] rfl (by kernel_rfl) (by kernel_rfl) (by kernel_rfl) (by kernel_rfl) rfl rfl (fun u H => x_fieldAddrO Tryz.underlying35 rfl Tryz.sizeOf3 (by decide) (show _ = 1 from rfl) rfl) (SH.sub H SB) ?_
      refine DL.take (i := 2) [] rfl (by kernel_rfl) (by kernel_rfl) (by kernel_rfl) (by kernel_rfl) rfl rfl (fun u H => x_load Tryz.isAgg3 rfl (by first | exact SH.cellB H AT (by rfl) | assumption)) (SH.sub H SB) ?_
      refine DL.take (i := 3) [] rfl (by kernel_rfl) (by kernel_rfl) (by kernel_rfl) (by kernel_rfl) rfl rfl (fun u H => x_move ) (SH.sub H SB) ?_
      refine DL.take (i := 4) [] rfl (by kernel_rfl) (by kernel_rfl) (by kernel_rfl) (by kernel_rfl) rfl rfl (fun u H => x_move ) (SH.sub H SB) ?_
      refine DL.one (i := 5) (by kernel_rfl) rfl rfl ?_
      refine r_call rfl Tryz.call144 HS (cStep _ (SH.prop H (i := 4) rfl)) ?_
      rintro _ w14_5 ⟨F14_5, rfl, K⟩
      refine ⟨_, rfl, ?_⟩
      replace H := SH.updP H (i := 4) rfl K
      clear K
      try dsimp only [replC, List.cons_append, List.nil_append, List.append_nil] at H
      refine LW.nil (thenE_norm ⟨fun _ => (SH.sub H SB), ?_⟩)
      refine DL.one (i := 6) (by kernel_rfl) rfl rfl ?_
      refine r_call rfl Tryz.call140 HS (put_c (s := ⟨cf, vR, vC, pc, pn, vS, en, va, vd, vk, rs, cs, gR, gC, FR, FC, Fk, ms, lost, FN, bs, gS, ga, gd, gk⟩) (ss := []) (Fz := Non) _ _ (SH.blk H (i := 0) rfl) (SH.prop H (i := 7) rfl) SndsA.nil (fun b hb => hb.elim) (fun hb => (SH.val H).apart (i := 0) (j := 7) rfl rfl (by decide) (.inl trivial) _ rfl hb) (fun b h1 h2 => h1.elim) (fun x hx => by cases hx) (by simp) hfl hl0 (by omega)) ?_
      rintro _ w14_6 ⟨ms14_6, lost14_6, FN14_6, rfl, hf14_6, hl14_6, hm14_6, K⟩
      refine ⟨_, rfl, ?_⟩
      replace H := SH.updP H (i := 7) rfl K
      clear K
      try dsimp only [replC, List.cons_append, List.nil_append, List.append_nil] at H
      refine LW.nil (thenE_norm ⟨fun _ => (SH.sub H SB), ?_⟩)
      refine DL.done (by kernel_rfl) ?_
      refine thenE_norm ?_
      refine cut (K := K17) [0, 8, 9, 11] (fun σ => ?_)
      refine zg zm ?_
      refine h17 _ _ ?_; clear h17; try clear K17
      refine CW.seq (fun K18 h18 => ?_)
      refine CW.seq fun K19 h19 => zr ?_
      refine zg iM ?_
      refine r_call rfl Tryz.call143 HS (cOut (SH.prop H (i := 4) rfl)) ?_
      rintro _ w15_1 ⟨F15_1, rfl, K⟩
      refine ⟨_, rfl, ?_⟩
      replace H := SH.updP H (i := 4) rfl K
      clear K
      try dsimp only [replC, List.cons_append, List.nil_append, List.append_nil] at H
      refine zg (zt iM (zt iE iE)) ?_
      refine s_alloc (cs := [.int .i64 0, .int .i64 0, .int .i64 0, .int .i64 0, .string (ByteArray.mk #[])]) H rfl Tryz.zeroValue152 rfl ?_
      clear H
      intro b15_5 w15_5 H
      try dsimp only [replC, List.cons_append, List.nil_append, List.append_nil, agg, cellsL, Value.cells, List.toList_toArray, List.set_cons_zero, List.set_cons_succ, spliceL, List.take_succ_cons, List.take_zero, List.drop_succ_cons, List.drop_zero, List.length_cons, List.length_nil, Nat.reduceAdd, Row.cells, Flight.L, Hd.L, Snd.L, Ev.L] at H
      refine s_storeA H Tryz.sizeOf152 rfl EV (by simp only [cellsL, agg, List.toList_toArray, Row.cells, Flight.L, Hd.L, Snd.L, Ev.L] <;> rfl) (by rfl) (by first | rfl | assumption | exact Rs.oneC RS | (simp only [List.all_cons, List.all_nil, Bool.and_true, Bool.and_eq_true, Row.cells, Flight.L, Hd.L, Snd.L, Ev.L]; (repeat' constructor) <;> first | rfl | assumption | exact Rs.oneC RS)) AT (by first | (simp; done) | decide | (show _ ≤ _; decide)) ?_
      clear H
      intro w15_6 H
      try dsimp only [replC, List.cons_append, List.nil_append, List.append_nil, agg, cellsL, Value.cells, List.toList_toArray, List.set_cons_zero, List.set_cons_succ, spliceL, List.take_succ_cons, List.take_zero, List.drop_succ_cons, List.drop_zero, List.length_cons, List.length_nil, Nat.reduceAdd, Row.cells, Flight.L, Hd.L, Snd.L, Ev.L] at H
      refine zg iA (zc [0, 8, 11, 12, 13] h19 fun σ => zg zm ?_); try clear h19
      refine CW.seq fun K20 h20 => zr ?_
      refine zg (zt iM iM) ?_
      refine LW.known (t := 107) (c := false) rfl (by first | rfl | (simp only [zd]; omega) | simp_all) (fun hg16_2 => ?_)
      refine LW.skip rfl (fun _ e => by cases e; decide) rfl hg16_2 ?_
      refine LW.skip rfl (fun _ e => by cases e; decide) rfl hg16_2 ?_
      refine zg (zk (r_pickF rfl rfl hg16_2)) (zn h20 ?_); try clear h20
      refine CW.condF rfl (by first | rfl | (simp only [zd]; omega) | simp_all) ?_
      refine CW.skip ?_
      refine thenE_norm (h18 _ _ ?_); clear h18; try clear K18
      refine CW.seq fun K21 h21 => zr ?_
      refine zg iA (zn h21 ?_); try clear h21
      refine CW.ret (ret1 Tryz.results94 EV ?_)
      obtain ⟨FC', H2⟩ := SH.lstClose CliQ.ok (SH.sel H [4, 5, 0, 1, 2, 3, 6, 7, 8, 9, 10, 11] (by decide) rfl) hq
      obtain ⟨F', K⟩ := WorldA.mk (k := k) (j := j + 1) ⟨cf, vR, vC, pc, pn, vS, en, va, vd, vk, rs, cs, gR, gC, FR, FC', Fk, ms14_6, lost14_6, FN14_6, bs, gS, ga, gd, gk⟩ ⟨hok.1, hok.2, hok.3, hok.4, hok.5, hok.6, hok.7, hok.8, hf14_6, hok.10, hok.11, by show 0 ≤ lost14_6; omega, by show lost14_6 ≤ _; omega⟩ (SH.sel H2 [1, 2, 3, 4, 0, 5, 6, 7, 8, 9, 10] (by decide) rfl)
      exact ⟨_, _, rfl, K⟩
end Go.Proofs.YtgmmbdmdimkfjaaGreat
