/-
  A world's deliver: what flies is taken by the host it flies to
-/
import Derived.Test.YtgmmbdmdimkfjaaGreatPI32
import Derived.Test.YtgmmbdmdimkfjaaGreatPI05
namespace Go.Proofs.YtgmmbdmdimkfjaaGreat
set_option linter.unusedSimpArgs false
set_option linter.unusedVariables false
set_option maxRecDepth 20000
open Go.V Go.RowKit Go.ChangeShapes Go.WideShapes
theorem rTakeNeg {p : Nat} (v : Value) (frm now : Int) (w : World) (hf : frm = -1) :
    Calls Tryz.prog 146 #[.pointer (some ⟨p, 0, none⟩), .int .i64 frm, v, .int .i64 now] w fun en w' => en = .returned (.slice none 0 0) ∧ Ext0 w w' := by
  have H := SH.start (U := Non) (G := Any) w
  refine calls_of_CW Tryz.func146 rfl Tryz.ntmps146 (Nat.le_of_ble_eq_true rfl) ?_
  simp only [argE, argFrom, Nat.reduceAdd]
  refine CW.seq fun K1 h1 => zr ?_
  refine zg iA (zn h1 ?_); try clear h1
  refine CW.seq (fun K2 h2 => ?_)
  refine CW.seq (fun K3 h3 => ?_)
  refine CW.drawH [] H (List.Sublist.refl _) (by kernel_rfl) rfl ?_
  clear H
  intro w1d H
  refine DL.take (i := 0) [] rfl (by kernel_rfl) (by kernel_rfl) (by kernel_rfl) (by kernel_rfl) rfl rfl (fun u H => x_move ) H ?_
  refine DL.take (i := 1) [] rfl (by kernel_rfl) (by kernel_rfl) (by kernel_rfl) (by kernel_rfl) rfl rfl (fun u H => x_eqlP Tryz.underlying60 rfl rfl) H ?_
  refine DL.take (i := 2) [] rfl (by kernel_rfl) (by kernel_rfl) (by kernel_rfl) (by kernel_rfl) rfl rfl (fun u H => x_move ) H ?_
  refine DL.known (t := 13) (c := false) rfl (by first | rfl | (simp only [zd]; omega) | simp_all) (fun hg1_2 => ?_)
  refine DL.take (i := 3) [] rfl (by kernel_rfl) (by kernel_rfl) (by kernel_rfl) (by kernel_rfl) rfl (wantE rfl rfl hg1_2) (fun u H => x_move ) H ?_
  refine DL.take (i := 4) [] rfl (by kernel_rfl) (by kernel_rfl) (by kernel_rfl) (by kernel_rfl) rfl (wantE rfl rfl hg1_2) (fun u H => x_lss rfl rfl) H ?_
  refine DL.take (i := 5) [] rfl (by kernel_rfl) (by kernel_rfl) (by kernel_rfl) (by kernel_rfl) rfl rfl (fun u H => x_pickF rfl hg1_2) H ?_
  refine DL.take (i := 6) [] rfl (by kernel_rfl) (by kernel_rfl) (by kernel_rfl) (by kernel_rfl) rfl rfl (fun u H => x_move ) H ?_
  refine DL.known (t := 17) (c := true) rfl (by first | rfl | (simp only [zd]; omega) | simp_all) (fun hg1_6 => ?_)
  refine DL.skip (i := 7) [] rfl (by kernel_rfl) (by kernel_rfl) (by kernel_rfl) (by kernel_rfl) rfl (skipE rfl rfl hg1_6) H ?_
  refine DL.skip (i := 8) [] rfl (by kernel_rfl) (by kernel_rfl) (by kernel_rfl) (by kernel_rfl) rfl (skipE rfl rfl hg1_6) H ?_
  refine DL.skip (i := 9) [] rfl (by kernel_rfl) (by kernel_rfl) (by kernel_rfl) (by kernel_rfl) rfl (skipE rfl rfl hg1_6) H ?_
  refine DL.skip (i := 10) [] rfl (by kernel_rfl) (by kernel_rfl) (by kernel_rfl) (by kernel_rfl) rfl (skipE rfl rfl hg1_6) H ?_
  refine DL.skip (i := 11) [] rfl (by kernel_rfl) (by kernel_rfl) (by kernel_rfl) (by kernel_rfl) rfl (skipE rfl rfl hg1_6) H ?_
  refine DL.skip (i := 12) [] rfl (by kernel_rfl) (by kernel_rfl) (by kernel_rfl) (by kernel_rfl) rfl (skipE rfl rfl hg1_6) H ?_
  refine DL.skip (i := 13) [] rfl (by kernel_rfl) (by kernel_rfl) (by kernel_rfl) (by kernel_rfl) rfl (skipE rfl rfl hg1_6) H ?_
  refine DL.skip (i := 14) [] rfl (by kernel_rfl) (by kernel_rfl) (by kernel_rfl) (by kernel_rfl) rfl (skipE rfl rfl hg1_6) H ?_
  refine DL.skip (i := 15) [] rfl (by kernel_rfl) (by kernel_rfl) (by kernel_rfl) (by kernel_rfl) rfl (skipE rfl rfl hg1_6) H ?_
  refine DL.skip (i := 16) [] rfl (by kernel_rfl) (by kernel_rfl) (by kernel_rfl) (by kernel_rfl) rfl (skipE rfl rfl hg1_6) H ?_
  refine DL.skip (i := 17) [] rfl (by kernel_rfl) (by kernel_rfl) (by kernel_rfl) (by kernel_rfl) rfl (skipE rfl rfl hg1_6) H ?_
  refine DL.skip (i := 18) [] rfl (by kernel_rfl) (by kernel_rfl) (by kernel_rfl) (by kernel_rfl) rfl (skipE rfl rfl hg1_6) H ?_
  refine DL.skip (i := 19) [] rfl (by kernel_rfl) (by kernel_rfl) (by kernel_rfl) (by kernel_rfl) rfl (skipE rfl rfl hg1_6) H ?_
  refine DL.take (i := 20) [] rfl (by kernel_rfl) (by kernel_rfl) (by kernel_rfl) (by kernel_rfl) rfl rfl (fun u H => x_pickT rfl hg1_6) H ?_
  refine DL.take (i := 21) [] rfl (by kernel_rfl) (by kernel_rfl) (by kernel_rfl) (by kernel_rfl) rfl rfl (fun u H => x_move ) H ?_
  refine DL.known (t := 32) (c := true) rfl (by first | rfl | (simp only [zd]; omega) | simp_all) (fun hg1_21 => ?_)
  refine DL.skip (i := 22) [] rfl (by kernel_rfl) (by kernel_rfl) (by kernel_rfl) (by kernel_rfl) rfl (skipE rfl rfl hg1_21) H ?_
  refine DL.skip (i := 23) [] rfl (by kernel_rfl) (by kernel_rfl) (by kernel_rfl) (by kernel_rfl) rfl (skipE rfl rfl hg1_21) H ?_
  refine DL.skip (i := 24) [] rfl (by kernel_rfl) (by kernel_rfl) (by kernel_rfl) (by kernel_rfl) rfl (skipE rfl rfl hg1_21) H ?_
  refine DL.skip (i := 25) [] rfl (by kernel_rfl) (by kernel_rfl) (by kernel_rfl) (by kernel_rfl) rfl (skipE rfl rfl hg1_21) H ?_
  refine DL.skip (i := 26) [] rfl (by kernel_rfl) (by kernel_rfl) (by kernel_rfl) (by kernel_rfl) rfl (skipE rfl rfl hg1_21) H ?_
  refine DL.skip (i := 27) [] rfl (by kernel_rfl) (by kernel_rfl) (by kernel_rfl) (by kernel_rfl) rfl (skipE rfl rfl hg1_21) H ?_
  refine DL.take (i := 28) [] rfl (by kernel_rfl) (by kernel_rfl) (by kernel_rfl) (by kernel_rfl) rfl rfl (fun u H => x_pickT rfl hg1_21) H ?_
  refine DL.done (by kernel_rfl) ?_
  refine thenE_norm ?_
  refine cut (K := K3) [0, 1, 2, 3, 39] (fun σ => ?_)
  refine zg zm ?_
  refine h3 _ _ ?_; clear h3; try clear K3
  refine CW.condT rfl (by first | rfl | (simp only [zd]; omega) | simp_all) ?_
  refine CW.seq fun K4 h4 => zr ?_
  refine zg iA (zn h4 ?_); try clear h4
  refine CW.ret (tR (ret1 Tryz.results146 EV ?_))
  exact ⟨rfl, H.ext⟩
def TakeIn (R id p : Nat) (v : Value) (bs : List UInt8) (g : Option Nat) (F : Nat → Prop) (w : World) : Prop := RepA R id p F w ∧ Ow 5 w v bs g
theorem TakeIn.st {R id p : Nat} {v : Value} {bs : List UInt8} {g : Option Nat} {F : Nat → Prop} : Ch.St (fun b => F b ∨ g = some b) (TakeIn R id p v bs g F) := fun V w w' h e hd =>
  ⟨RepA.st V w w' h.1 e fun b hb => hd b (.inl hb), ⟨h.2.1.up e fun b hb => hd b (.inr hb), h.2.2⟩⟩
theorem rTakeAny {R id p : Nat} {F : Nat → Prop} {w : World} {v : Value} {bs : List UInt8} {g : Option Nat} (hR : okR R) (hid : id < R) (frm now : Int) (h : TakeIn R id p v bs g F w) (hbs : (frm = -1 ∧ bs.length = 3) ∨ bs ∈ sentB R) (hap : ∀ b, g = some b → ¬ F b) :
    Calls Tryz.prog 146 #[.pointer (some ⟨p, 0, none⟩), .int .i64 frm, v, .int .i64 now] w fun en w' => ∃ v' ss F' Fz, en = .returned v' ∧ (ss.length ≤ 20 ∧ ∀ s ∈ ss, s.2 ∈ sentB R) ∧ SH (fun b => F b ∨ g = some b) Non w w' [.P F' (RepA R id p F'), .P Fz (SndsA Fz v' ss)] := by
  rcases hbs with hb | hb
  · refine Calls.mono (rTakeNeg v frm now w hb.1) ?_
    rintro en w' ⟨rfl, X⟩
    have h1 : RepA R id p F w' := RepA.st Non w w' h.1 X fun b _ q => q.elim
    refine ⟨_, [], F, Non, rfl, ⟨by simp, fun s hs => by cases hs⟩, X.mono (fun b q => q.elim), ?_⟩
    have q1 : Ok (fun b => (F b ∨ g = some b) ∨ w.heap.size ≤ b) Non w' (.P F (RepA R id p F)) := ⟨h1, RepA.st, RepA.lt h1, fun _ b hb => .inl (.inl hb), fun b hb => .inl (.inl (.inl hb))⟩
    have q2 : Ok (fun b => (F b ∨ g = some b) ∨ w.heap.size ≤ b) Non w' (.P Non (SndsA Non (.slice none 0 0) [])) := ⟨SndsA.nil, SndsA.st, fun b hb => hb.elim, fun _ b hb => hb.elim, fun b hb => hb.elim⟩
    refine Val.cons q1 (Val.one q2) ?_
    intro d hd _ b hb1 hb2
    rw [List.mem_singleton] at hd
    subst hd
    exact hb2
  · exact rTake hR hid frm now h.1 h.2 hb hap
set_option maxHeartbeats 4000000 in
theorem deliver_c {R C p k j : Nat} {F : Nat → Prop} (a : Ev) (w : World) (h : WorldA R C p k j F w) (hj : j ≤ 1000) : Calls Tryz.prog 95 #[.pointer (some ⟨p, 0, none⟩), agg a] w fun e w' => ∃ x F', e = .returned (.int .i64 x) ∧ SH F Non w w' [.P F' (WorldA R C p k (j + 1) F')] := by
  obtain ⟨⟨cf, vR, vC, pc, pn, vS, en, va, vd, vk, rs, cs, gR, gC, FR, FC, Fk, ms, lost, FN, bs, gS, ga, gd, gk⟩, hok, hA⟩ := h
  have H := SH.obj (G := Any) hA
  have hl0 : 0 ≤ lost := hok.l0
  have hl1 : lost ≤ 20 * j := hok.l1
  have hRr : okR R := hok.okR
  have hR7 : R ≤ 7 := by rcases hRr with rfl | rfl | rfl | rfl <;> omega
  have hrl : rs.length = R := hok.rs
  have hcl : cs.length = C := hok.cs
  have hC5 := hok.c5
  have hfl : FlOK R ms := hok.fl
  have hfc : FlOK R (netCut ms a.at_) := netCut_ok hfl
  have hpl := ptrs_len rs
  have hpl2 := ptrs_len cs
  dsimp only [WS.L, WS.cells] at H
  refine calls_of_CW Tryz.func95 rfl Tryz.ntmps95 (Nat.le_of_ble_eq_true rfl) ?_
  simp only [argE, argFrom, Nat.reduceAdd]
  refine CW.seq fun K1 h1 => zr ?_
  refine s_box H rfl EV rfl ?_
  clear H
  intro b0_0 w0_0 H
  try dsimp only [replC, List.cons_append, List.nil_append, List.append_nil, agg, cellsL, Value.cells, List.toList_toArray, List.set_cons_zero, List.set_cons_succ, spliceL, List.take_succ_cons, List.take_zero, List.drop_succ_cons, List.drop_zero, List.length_cons, List.length_nil, Nat.reduceAdd, Row.cells, Flight.L, Hd.L, Snd.L, Ev.L] at H
  refine zg iA (zn h1 ?_); try clear h1
  refine CW.seq (fun K2 h2 => ?_)
  refine CW.drawP [0, 1, 2, 3, 4, 5, 7, 8, 9, 10, 11] [] H (by dsimp only [pickC, nthC] <;> rfl) SB (by kernel_rfl) rfl ?_
  clear H
  intro w1d H
  refine DL.take (i := 0) [] rfl (by kernel_rfl) (by kernel_rfl) (by kernel_rfl) (by kernel_rfl) rfl rfl (fun u H => x_move ) (SH.sub H SB) ?_
  refine DL.take (i := 1) [] rfl (by kernel_rfl) (by kernel_rfl) (by kernel_rfl) (by kernel_rfl) rfl rfl (fun u H => x_nilCheck rfl) (SH.sub H SB) ?_
  refine DL.take (i := 2) [] rfl (by kernel_rfl) (by kernel_rfl) (by kernel_rfl) (by kernel_rfl) rfl rfl (fun u H => x_fieldAddrO Tryz.underlying104 rfl Tryz.sizeOf95 (by decide) (show _ = 14 from rfl) rfl) (SH.sub H SB) ?_
  refine DL.take (i := 3) [] rfl (by kernel_rfl) (by kernel_rfl) (by kernel_rfl) (by kernel_rfl) rfl rfl (fun u H => x_load Tryz.isAgg95 rfl (by first | exact SH.cellB H AT (by rfl) | exact SH.cellI H AT (by rfl) | assumption)) (SH.sub H SB) ?_
  refine DL.take (i := 4) [] rfl (by kernel_rfl) (by kernel_rfl) (by kernel_rfl) (by kernel_rfl) rfl rfl (fun u H => x_fieldAddrO Tryz.underlying35 rfl Tryz.sizeOf3 (by decide) (show _ = 2 from rfl) rfl) (SH.sub H SB) ?_
  refine DL.take (i := 5) [] rfl (by kernel_rfl) (by kernel_rfl) (by kernel_rfl) (by kernel_rfl) rfl rfl (fun u H => x_load Tryz.isAgg3 rfl (by first | exact SH.cellB H AT (by rfl) | assumption)) (SH.sub H SB) ?_
  refine DL.two (i := 6) (j := 10) (by kernel_rfl) ?_ ?_
  · refine LOp.of rfl rfl ?_
    refine r_call rfl Tryz.call145 HS (Take_c _ _ (SH.prop H AT)) ?_
    rintro _ w1_6 ⟨v1_6, g1_6, FN1_6, rfl, K⟩
    refine ⟨_, rfl, ?_⟩
    replace H := SH.updP H AT K
    clear K
    try dsimp only [replC, List.cons_append, List.nil_append, List.append_nil] at H
    refine LW.nil (thenE_norm ⟨fun _ => (SH.sub H SB), ?_⟩)
    refine DL.take (i := 7) [] rfl (by kernel_rfl) (by kernel_rfl) (by kernel_rfl) (by kernel_rfl) rfl rfl (fun u H => x_move ) (SH.sub H SB) ?_
    refine DL.take (i := 8) [] rfl (by kernel_rfl) (by kernel_rfl) (by kernel_rfl) (by kernel_rfl) rfl rfl (fun u H => x_extract EV (by simp only [List.getElem?_toArray, List.getElem?_cons_zero, List.getElem?_cons_succ] <;> rfl)) (SH.sub H SB) ?_
    refine DL.take (i := 9) [] rfl (by kernel_rfl) (by kernel_rfl) (by kernel_rfl) (by kernel_rfl) rfl rfl (fun u H => x_extract EV (by simp only [List.getElem?_toArray, List.getElem?_cons_zero, List.getElem?_cons_succ] <;> rfl)) (SH.sub H SB) ?_
    refine DL.one (i := 10) (by kernel_rfl) rfl rfl ?_
    refine s_alloc (cs := [.int .i64 0, .int .i64 0, .int .i64 0, .slice none 0 0]) H rfl Tryz.zeroValue180 rfl ?_
    clear H
    intro b1_10 w1_10 H
    try dsimp only [replC, List.cons_append, List.nil_append, List.append_nil, agg, cellsL, Value.cells, List.toList_toArray, List.set_cons_zero, List.set_cons_succ, spliceL, List.take_succ_cons, List.take_zero, List.drop_succ_cons, List.drop_zero, List.length_cons, List.length_nil, Nat.reduceAdd, Row.cells, Flight.L, Hd.L, Snd.L, Ev.L] at H
    refine LW.nil (thenE_norm ⟨fun _ => (SH.sub H SB), ?_⟩)
    refine DL.one (i := 11) (by kernel_rfl) rfl rfl ?_
    refine s_storeA H Tryz.sizeOf180 rfl EV (by simp only [cellsL, agg, List.toList_toArray, Row.cells, Flight.L, Hd.L, Snd.L, Ev.L] <;> rfl) (by rfl) (by first | rfl | assumption | exact Rs.oneC RS | (simp only [List.all_cons, List.all_nil, Bool.and_true, Bool.and_eq_true, Row.cells, Flight.L, Hd.L, Snd.L, Ev.L]; (repeat' constructor) <;> first | rfl | assumption | exact Rs.oneC RS)) AT (by first | (simp; done) | decide | (show _ ≤ _; decide)) ?_
    clear H
    intro w1_11 H
    try dsimp only [replC, List.cons_append, List.nil_append, List.append_nil, agg, cellsL, Value.cells, List.toList_toArray, List.set_cons_zero, List.set_cons_succ, spliceL, List.take_succ_cons, List.take_zero, List.drop_succ_cons, List.drop_zero, List.length_cons, List.length_nil, Nat.reduceAdd, Row.cells, Flight.L, Hd.L, Snd.L, Ev.L] at H
    refine LW.nil (thenE_norm ⟨fun _ => (SH.sub H SB), ?_⟩)
    refine DL.take (i := 12) [] rfl (by kernel_rfl) (by kernel_rfl) (by kernel_rfl) (by kernel_rfl) rfl rfl (fun u H => x_assign ) (SH.sub H SB) ?_
    refine DL.done (by kernel_rfl) ?_
    refine thenE_norm ?_
    refine cut (K := K2) [0, 5, 6] (fun σ => ?_)
    refine zg zm ?_
    refine h2 _ _ ?_; clear h2; try clear K2
    refine CW.seq (fun K3 h3 => ?_)
    refine CW.seq fun K4 h4 => zr ?_
    refine zg (zt iM iN) (zn h4 ?_); try clear h4
    refine CW.cond rfl (fun hc1 => ?_) (fun hc1 => ?_)
    · try simp only [zb] at hc1
      refine CW.seq fun K5 h5 => zr ?_
      refine zg iA (zn h5 ?_); try clear h5
      refine CW.ret (tR (ret1 Tryz.results95 EV ?_))
      obtain ⟨F', K⟩ := WorldA.mk (k := k) (j := j + 1) ⟨cf, vR, vC, pc, pn, vS, en, va, vd, vk, rs, cs, gR, gC, FR, FC, Fk, netCut ms a.at_, lost, FN1_6, bs, gS, ga, gd, gk⟩ ⟨hok.1, hok.2, hok.3, hok.4, hok.5, hok.6, hok.7, hok.8, hfc, hok.10, hok.11, hl0, by show lost ≤ _; omega⟩ (SH.sel H [0, 1, 2, 3, 4, 5, 6, 8, 9, 10, 11] (by decide) rfl)
      exact ⟨_, _, rfl, K⟩
    · try simp only [zb] at hc1
      refine CW.skip ?_
      refine thenE_norm (h3 _ _ ?_); clear h3; try clear K3
      refine CW.seq (fun K6 h6 => ?_)
      refine CW.seq (fun K7 h7 => ?_)
      have hb := netAt_ok hfl (show (netAt ms a.at_).2 = true by simp_all)
      refine CW.region ?_
      refine zg (zt iM (zt (fA 1) iL)) ?_
      refine r_call rfl Tryz.call139 HS (there_c _ _ ⟨⟨cf, vR, vC, pc, pn, vS, en, va, vd, vk, rs, cs, gR, gC, FR, FC, Fk, netCut ms a.at_, lost, FN1_6, bs, gS, ga, gd, gk⟩, ⟨hok.1, hok.2, hok.3, hok.4, hok.5, hok.6, hok.7, hok.8, hfc, hok.10, hok.11, hl0, hl1⟩, SH.objA (SH.sel H [0, 1, 2, 3, 4, 5, 6, 8, 9, 10, 11] (by decide) rfl)⟩) ?_
      rintro _ w4_3 ⟨x4_3, hx4_3, rfl, rfl⟩
      refine ⟨_, rfl, ?_⟩
      refine zg iA (zn h7 ?_); try clear h7
      refine CW.seq fun K8 h8 => zr ?_
      refine zg (zt iM ine) (zc [0, 5, 7, 28] h8 fun σ => zg zm ?_); try clear h8
      refine CW.cond rfl (fun hc2 => ?_) (fun hc2 => ?_)
      · try simp only [zb] at hc2
        refine CW.seq fun K9 h9 => zr ?_
        refine zg (zt iM iA) (zn h9 ?_); try clear h9
        refine CW.ret (tR (ret1 Tryz.results95 EV ?_))
        obtain ⟨F', K⟩ := WorldA.mk (k := k) (j := j + 1) ⟨cf, vR, vC, pc, pn, vS, en, va, vd, vk, rs, cs, gR, gC, FR, FC, Fk, netCut ms a.at_, lost, FN1_6, bs, gS, ga, gd, gk⟩ ⟨hok.1, hok.2, hok.3, hok.4, hok.5, hok.6, hok.7, hok.8, hfc, hok.10, hok.11, hl0, by show lost ≤ _; omega⟩ (SH.sel H [0, 1, 2, 3, 4, 5, 6, 8, 9, 10, 11] (by decide) rfl)
        exact ⟨_, _, rfl, K⟩
      · try simp only [zb] at hc2
        refine CW.skip ?_
        refine thenE_norm (h6 _ _ ?_); clear h6; try clear K6
        refine CW.seq (fun K10 h10 => ?_)
        have hh := hx4_3 (by omega)
        refine CW.drawH [] H (List.Sublist.refl _) (by kernel_rfl) rfl ?_
        clear H
        intro w7d H
        refine DL.take (i := 0) [] rfl (by kernel_rfl) (by kernel_rfl) (by kernel_rfl) (by kernel_rfl) rfl rfl (fun u H => x_move ) H ?_
        refine DL.take (i := 1) [] rfl (by kernel_rfl) (by kernel_rfl) (by kernel_rfl) (by kernel_rfl) rfl rfl (fun u H => x_nilCheck rfl) H ?_
        refine DL.take (i := 2) [] rfl (by kernel_rfl) (by kernel_rfl) (by kernel_rfl) (by kernel_rfl) rfl rfl (fun u H => x_fieldAddrO Tryz.underlying104 rfl Tryz.sizeOf93 (by decide) (show _ = 13 from rfl) rfl) H ?_
        refine DL.take (i := 3) [] rfl (by kernel_rfl) (by kernel_rfl) (by kernel_rfl) (by kernel_rfl) rfl rfl (fun u H => x_load Tryz.isAgg93 rfl (by first | exact SH.cellB H AT (by rfl) | exact SH.cellI H AT (by rfl) | assumption)) H ?_
        refine DL.take (i := 4) [] rfl (by kernel_rfl) (by kernel_rfl) (by kernel_rfl) (by kernel_rfl) rfl rfl (fun u H => x_fieldAddrO Tryz.underlying180 rfl Tryz.sizeOf3 (by decide) (show _ = 1 from rfl) rfl) H ?_
        refine DL.take (i := 5) [] rfl (by kernel_rfl) (by kernel_rfl) (by kernel_rfl) (by kernel_rfl) rfl rfl (fun u H => x_load Tryz.isAgg3 rfl (by first | exact SH.cellB H AT (by rfl) | assumption)) H ?_
        refine DL.one (i := 6) (by kernel_rfl) rfl rfl ?_
        refine r_call rfl Tryz.call111 HS (ClockNow_c _ _ (SH.prop H AT)) ?_
        rintro _ w7_6 ⟨x7_6, rfl, rfl⟩
        refine ⟨_, rfl, ?_⟩
        refine LW.nil (thenE_norm ⟨fun _ => (SH.sub H SB), ?_⟩)
        refine DL.take (i := 7) [] rfl (by kernel_rfl) (by kernel_rfl) (by kernel_rfl) (by kernel_rfl) rfl rfl (fun u H => x_assign ) (SH.sub H SB) ?_
        refine DL.done (by kernel_rfl) ?_
        refine thenE_norm ?_
        refine cut (K := K10) [0, 5, 8] (fun σ => ?_)
        refine zg zm ?_
        refine h10 _ _ ?_; clear h10; try clear K10
        refine CW.seq (fun K11 h11 => ?_)
        refine CW.seq (fun K12 h12 => ?_)
        refine CW.drawH [] H (List.Sublist.refl _) (by kernel_rfl) rfl ?_
        clear H
        intro w8d H
        refine DL.take (i := 0) [] rfl (by kernel_rfl) (by kernel_rfl) (by kernel_rfl) (by kernel_rfl) rfl rfl (fun u H => x_fieldAddrO Tryz.underlying180 rfl Tryz.sizeOf3 (by decide) (show _ = 1 from rfl) rfl) H ?_
        refine DL.take (i := 1) [] rfl (by kernel_rfl) (by kernel_rfl) (by kernel_rfl) (by kernel_rfl) rfl rfl (fun u H => x_load Tryz.isAgg3 rfl (by first | exact SH.cellB H AT (by rfl) | assumption)) H ?_
        refine DL.take (i := 2) [] rfl (by kernel_rfl) (by kernel_rfl) (by kernel_rfl) (by kernel_rfl) rfl rfl (fun u H => x_move ) H ?_
        refine DL.take (i := 3) [] rfl (by kernel_rfl) (by kernel_rfl) (by kernel_rfl) (by kernel_rfl) rfl rfl (fun u H => x_nilCheck rfl) H ?_
        refine DL.take (i := 4) [] rfl (by kernel_rfl) (by kernel_rfl) (by kernel_rfl) (by kernel_rfl) rfl rfl (fun u H => x_fieldAddrO Tryz.underlying104 rfl Tryz.sizeOf24 (by decide) (show _ = 0 from rfl) rfl) H ?_
        refine DL.take (i := 5) [] rfl (by kernel_rfl) (by kernel_rfl) (by kernel_rfl) (by kernel_rfl) rfl rfl (fun u H => x_fieldAddrO Tryz.underlying24 rfl Tryz.sizeOf3 (by decide) (show _ = 0 from rfl) rfl) H ?_
        refine DL.take (i := 6) [] rfl (by kernel_rfl) (by kernel_rfl) (by kernel_rfl) (by kernel_rfl) rfl rfl (fun u H => x_load Tryz.isAgg3 rfl (by first | exact SH.cellB H AT (by rfl) | exact SH.cellI H AT (by rfl) | assumption)) H ?_
        refine DL.take (i := 7) [] rfl (by kernel_rfl) (by kernel_rfl) (by kernel_rfl) (by kernel_rfl) rfl rfl (fun u H => x_lss rfl rfl) H ?_
        refine DL.done (by kernel_rfl) ?_
        refine thenE_norm ?_
        refine cut (K := K12) [0, 5, 8, 44] (fun σ => ?_)
        refine zg zm ?_
        refine h12 _ _ ?_; clear h12; try clear K12
        refine CW.cond rfl (fun hc3 => ?_) (fun hc3 => ?_)
        · try simp only [zb] at hc3
          refine CW.seq (fun K13 h13 => ?_)
          obtain ⟨q, hq⟩ := get_of_lt (show (netAt ms a.at_).1.dst.toNat < rs.length by omega)
          have hpq := ptrs_get hq
          have hid : (netAt ms a.at_).1.dst.toNat < R := by omega
          obtain ⟨Fq, Fr, H⟩ := SH.lstOpen (RepQ.ok R) H (j := 2) rfl hq
          dsimp only [replC, List.cons_append, List.nil_append, List.append_nil] at H
          refine CW.drawP [0, 1, 3, 4, 5, 6, 7, 8, 9, 10, 11, 12, 13, 14] [] H (by dsimp only [pickC, nthC] <;> rfl) SB (by kernel_rfl) rfl ?_
          clear H
          intro w9d H
          refine DL.take (i := 0) [] rfl (by kernel_rfl) (by kernel_rfl) (by kernel_rfl) (by kernel_rfl) rfl rfl (fun u H => x_move ) (SH.sub H SB) ?_
          refine DL.take (i := 1) [] rfl (by kernel_rfl) (by kernel_rfl) (by kernel_rfl) (by kernel_rfl) rfl rfl (fun u H => x_nilCheck rfl) (SH.sub H SB) ?_
          refine DL.take (i := 2) [] rfl (by kernel_rfl) (by kernel_rfl) (by kernel_rfl) (by kernel_rfl) rfl rfl (fun u H => x_fieldAddrO Tryz.underlying104 rfl Tryz.sizeOf100 (by decide) (show _ = 11 from rfl) rfl) (SH.sub H SB) ?_
          refine DL.take (i := 3) [] rfl (by kernel_rfl) (by kernel_rfl) (by kernel_rfl) (by kernel_rfl) rfl rfl (fun u H => x_load Tryz.isAgg100 rfl (by first | exact SH.cellB H AT (by rfl) | exact SH.cellI H AT (by rfl) | assumption)) (SH.sub H SB) ?_
          refine DL.take (i := 4) [] rfl (by kernel_rfl) (by kernel_rfl) (by kernel_rfl) (by kernel_rfl) rfl rfl (fun u H => x_fieldAddrO Tryz.underlying180 rfl Tryz.sizeOf3 (by decide) (show _ = 1 from rfl) rfl) (SH.sub H SB) ?_
          refine DL.take (i := 5) [] rfl (by kernel_rfl) (by kernel_rfl) (by kernel_rfl) (by kernel_rfl) rfl rfl (fun u H => x_load Tryz.isAgg3 rfl (by first | exact SH.cellB H AT (by rfl) | assumption)) (SH.sub H SB) ?_
          refine DL.take (i := 6) [] rfl (by kernel_rfl) (by kernel_rfl) (by kernel_rfl) (by kernel_rfl) rfl rfl (fun u H => x_indexAddrV Tryz.underlying100 EV rfl RS (by exact Tryz.sizeOf60) (by omega) (by omega)) (SH.sub H SB) ?_
          refine DL.take (i := 7) [] rfl (by kernel_rfl) (by kernel_rfl) (by kernel_rfl) (by kernel_rfl) rfl rfl (fun u H => x_load Tryz.isAgg60 rfl (by first | exact Rs.cell RS (by assumption) (by rfl) | exact Rs.cell0 RS (by assumption) (by rfl) | assumption)) (SH.sub H SB) ?_
          refine DL.one (i := 8) (by kernel_rfl) rfl rfl ?_
          refine r_call rfl Tryz.call21 HS (rDone hRr hid (SH.prop H (i := 2) rfl)) ?_
          rintro _ w9_8 ⟨F9_8, rfl, K⟩
          refine ⟨_, rfl, ?_⟩
          replace H := SH.updP H (i := 2) rfl K
          clear K
          try dsimp only [replC, List.cons_append, List.nil_append, List.append_nil] at H
          refine LW.nil (thenE_norm ⟨fun _ => (SH.sub H SB), ?_⟩)
          refine DL.take (i := 9) [] rfl (by kernel_rfl) (by kernel_rfl) (by kernel_rfl) (by kernel_rfl) rfl rfl (fun u H => x_assign ) (SH.sub H SB) ?_
          refine DL.done (by kernel_rfl) ?_
          refine thenE_norm ?_
          refine cut (K := K13) [0, 5, 8, 9] (fun σ => ?_)
          refine zg zm ?_
          refine h13 _ _ ?_; clear h13; try clear K13
          refine CW.seq (fun K14 h14 => ?_)
          have hap : ∀ b, g1_6 = some b → ¬ F9_8 b := fun b h1 h2 => (SH.val H).apart (i := 8) (j := 2) rfl rfl (by decide) (.inl trivial) b h1 h2
          replace H := SH.absorb (A' := TakeIn R _ q v1_6 _ g1_6 F9_8) (SH.sel H [2, 8, 0, 1, 3, 4, 5, 6, 7, 9, 10, 11, 12, 13, 14] (by decide) rfl) trivial TakeIn.st (fun h1 h2 => ⟨h1, h2⟩)
          dsimp only [Ch.F] at H
          refine CW.drawP [1, 2, 3, 4, 5, 6, 8, 9, 10, 11, 12, 13] [] H (by dsimp only [pickC, nthC] <;> rfl) SB (by kernel_rfl) rfl ?_
          clear H
          intro w10d H
          refine DL.take (i := 0) [] rfl (by kernel_rfl) (by kernel_rfl) (by kernel_rfl) (by kernel_rfl) rfl rfl (fun u H => x_move ) (SH.sub H SB) ?_
          refine DL.take (i := 1) [] rfl (by kernel_rfl) (by kernel_rfl) (by kernel_rfl) (by kernel_rfl) rfl rfl (fun u H => x_fieldAddrO Tryz.underlying180 rfl Tryz.sizeOf3 (by decide) (show _ = 1 from rfl) rfl) (SH.sub H SB) ?_
          refine DL.take (i := 2) [] rfl (by kernel_rfl) (by kernel_rfl) (by kernel_rfl) (by kernel_rfl) rfl rfl (fun u H => x_load Tryz.isAgg3 rfl (by first | exact SH.cellB H AT (by rfl) | assumption)) (SH.sub H SB) ?_
          refine DL.take (i := 3) [] rfl (by kernel_rfl) (by kernel_rfl) (by kernel_rfl) (by kernel_rfl) rfl rfl (fun u H => x_move ) (SH.sub H SB) ?_
          refine DL.take (i := 4) [] rfl (by kernel_rfl) (by kernel_rfl) (by kernel_rfl) (by kernel_rfl) rfl rfl (fun u H => x_nilCheck rfl) (SH.sub H SB) ?_
          refine DL.take (i := 5) [] rfl (by kernel_rfl) (by kernel_rfl) (by kernel_rfl) (by kernel_rfl) rfl rfl (fun u H => x_fieldAddrO Tryz.underlying104 rfl Tryz.sizeOf100 (by decide) (show _ = 11 from rfl) rfl) (SH.sub H SB) ?_
          refine DL.take (i := 6) [] rfl (by kernel_rfl) (by kernel_rfl) (by kernel_rfl) (by kernel_rfl) rfl rfl (fun u H => x_load Tryz.isAgg100 rfl (by first | exact SH.cellB H AT (by rfl) | exact SH.cellI H AT (by rfl) | assumption)) (SH.sub H SB) ?_
          refine DL.take (i := 7) [] rfl (by kernel_rfl) (by kernel_rfl) (by kernel_rfl) (by kernel_rfl) rfl rfl (fun u H => x_fieldAddrO Tryz.underlying180 rfl Tryz.sizeOf3 (by decide) (show _ = 1 from rfl) rfl) (SH.sub H SB) ?_
          refine DL.take (i := 8) [] rfl (by kernel_rfl) (by kernel_rfl) (by kernel_rfl) (by kernel_rfl) rfl rfl (fun u H => x_load Tryz.isAgg3 rfl (by first | exact SH.cellB H AT (by rfl) | assumption)) (SH.sub H SB) ?_
          refine DL.take (i := 9) [] rfl (by kernel_rfl) (by kernel_rfl) (by kernel_rfl) (by kernel_rfl) rfl rfl (fun u H => x_indexAddrV Tryz.underlying100 EV rfl RS (by exact Tryz.sizeOf60) (by omega) (by omega)) (SH.sub H SB) ?_
          refine DL.take (i := 10) [] rfl (by kernel_rfl) (by kernel_rfl) (by kernel_rfl) (by kernel_rfl) rfl rfl (fun u H => x_load Tryz.isAgg60 rfl (by first | exact Rs.cell RS (by assumption) (by rfl) | exact Rs.cell0 RS (by assumption) (by rfl) | assumption)) (SH.sub H SB) ?_
          refine DL.take (i := 11) [] rfl (by kernel_rfl) (by kernel_rfl) (by kernel_rfl) (by kernel_rfl) rfl rfl (fun u H => x_fieldAddrO Tryz.underlying180 rfl Tryz.sizeOf3 (by decide) (show _ = 0 from rfl) rfl) (SH.sub H SB) ?_
          refine DL.take (i := 12) [] rfl (by kernel_rfl) (by kernel_rfl) (by kernel_rfl) (by kernel_rfl) rfl rfl (fun u H => x_load Tryz.isAgg3 rfl (by first | exact SH.cellB H AT (by rfl) | assumption)) (SH.sub H SB) ?_
          refine DL.take (i := 13) [] rfl (by kernel_rfl) (by kernel_rfl) (by kernel_rfl) (by kernel_rfl) rfl rfl (fun u H => x_fieldAddrO Tryz.underlying180 rfl Tryz.sizeOf22 (by decide) (show _ = 3 from rfl) rfl) (SH.sub H SB) ?_
          refine DL.take (i := 14) [] rfl (by kernel_rfl) (by kernel_rfl) (by kernel_rfl) (by kernel_rfl) rfl rfl (fun u H => x_load Tryz.isAgg22 rfl (by first | exact SH.cellB H AT (by rfl) | assumption)) (SH.sub H SB) ?_
          refine DL.take (i := 15) [] rfl (by kernel_rfl) (by kernel_rfl) (by kernel_rfl) (by kernel_rfl) rfl rfl (fun u H => x_move ) (SH.sub H SB) ?_
          refine DL.one (i := 16) (by kernel_rfl) rfl rfl ?_
          refine r_call rfl Tryz.call146 HS (rTakeAny hRr hid _ _ (SH.prop H (i := 0) rfl) hb hap) ?_
          rintro _ w10_16 ⟨v10_16, ss10_16, F10_16, FS10_16, rfl, hss10_16, K⟩
          refine ⟨_, rfl, ?_⟩
          replace H := SH.updP H (i := 0) rfl K
          clear K
          try dsimp only [replC, List.cons_append, List.nil_append, List.append_nil] at H
          refine LW.nil (thenE_norm ⟨fun _ => (SH.sub H SB), ?_⟩)
          refine DL.one (i := 17) (by kernel_rfl) rfl rfl ?_
          refine r_call rfl Tryz.call140 HS (put_c (s := ⟨cf, vR, vC, pc, pn, vS, en, va, vd, vk, rs, cs, gR, gC, FR, FC, Fk, ms, lost, FN1_6, bs, gS, ga, gd, gk⟩) _ _ (SH.blk H (i := 2) rfl) (SH.prop H (i := 8) rfl) (SH.prop H (i := 1) rfl) (fun b hb => (SH.val H).1 _ (At.mem (i := 1) rfl) |>.lt b hb) (fun hb => (SH.val H).apart (i := 2) (j := 8) rfl rfl (by decide) (.inl trivial) _ rfl hb) (fun b h1 h2 => (SH.val H).apart (i := 1) (j := 8) rfl rfl (by decide) (.inl trivial) b h1 h2) hss10_16.2 hss10_16.1 hfc hl0 (by omega)) ?_
          rintro _ w10_17 ⟨ms10_17, lost10_17, FN10_17, rfl, hf10_17, hl10_17, hm10_17, K⟩
          refine ⟨_, rfl, ?_⟩
          replace H := SH.updP H (i := 8) rfl K
          clear K
          try dsimp only [replC, List.cons_append, List.nil_append, List.append_nil] at H
          refine LW.nil (thenE_norm ⟨fun _ => (SH.sub H SB), ?_⟩)
          refine DL.done (by kernel_rfl) ?_
          refine thenE_norm ?_
          refine cut (K := K14) [0, 5, 9] (fun σ => ?_)
          refine zg zm ?_
          refine h14 _ _ ?_; clear h14; try clear K14
          refine CW.seq (fun K15 h15 => ?_)
          refine CW.seq (fun K16 h16 => ?_)
          refine CW.drawP [1, 2, 3, 4, 5, 6, 7, 8, 9, 10, 11, 12, 13, 14] [] H (by dsimp only [pickC, nthC] <;> rfl) SB (by kernel_rfl) rfl ?_
          clear H
          intro w11d H
          refine DL.take (i := 0) [] rfl (by kernel_rfl) (by kernel_rfl) (by kernel_rfl) (by kernel_rfl) rfl rfl (fun u H => x_move ) (SH.sub H SB) ?_
          refine DL.take (i := 1) [] rfl (by kernel_rfl) (by kernel_rfl) (by kernel_rfl) (by kernel_rfl) rfl rfl (fun u H => x_nilCheck rfl) (SH.sub H SB) ?_
          refine DL.take (i := 2) [] rfl (by kernel_rfl) (by kernel_rfl) (by kernel_rfl) (by kernel_rfl) rfl rfl (fun u H => x_fieldAddrO Tryz.underlying104 rfl Tryz.sizeOf100 (by decide) (show _ = 11 from rfl) rfl) (SH.sub H SB) ?_
          refine DL.take (i := 3) [] rfl (by kernel_rfl) (by kernel_rfl) (by kernel_rfl) (by kernel_rfl) rfl rfl (fun u H => x_load Tryz.isAgg100 rfl (by first | exact SH.cellB H AT (by rfl) | exact SH.cellI H AT (by rfl) | assumption)) (SH.sub H SB) ?_
          refine DL.take (i := 4) [] rfl (by kernel_rfl) (by kernel_rfl) (by kernel_rfl) (by kernel_rfl) rfl rfl (fun u H => x_fieldAddrO Tryz.underlying180 rfl Tryz.sizeOf3 (by decide) (show _ = 1 from rfl) rfl) (SH.sub H SB) ?_
          refine DL.take (i := 5) [] rfl (by kernel_rfl) (by kernel_rfl) (by kernel_rfl) (by kernel_rfl) rfl rfl (fun u H => x_load Tryz.isAgg3 rfl (by first | exact SH.cellB H AT (by rfl) | assumption)) (SH.sub H SB) ?_
          refine DL.take (i := 6) [] rfl (by kernel_rfl) (by kernel_rfl) (by kernel_rfl) (by kernel_rfl) rfl rfl (fun u H => x_indexAddrV Tryz.underlying100 EV rfl RS (by exact Tryz.sizeOf60) (by omega) (by omega)) (SH.sub H SB) ?_
          refine DL.take (i := 7) [] rfl (by kernel_rfl) (by kernel_rfl) (by kernel_rfl) (by kernel_rfl) rfl rfl (fun u H => x_load Tryz.isAgg60 rfl (by first | exact Rs.cell RS (by assumption) (by rfl) | exact Rs.cell0 RS (by assumption) (by rfl) | assumption)) (SH.sub H SB) ?_
          refine DL.take (i := 9) [] rfl (by kernel_rfl) (by kernel_rfl) (by kernel_rfl) (by kernel_rfl) rfl rfl (fun u H => x_move ) (SH.sub H SB) ?_
          refine DL.one (i := 8) (by kernel_rfl) rfl rfl ?_
          refine r_call rfl Tryz.call21 HS (rDone hRr hid (SH.prop H (i := 0) rfl)) ?_
          rintro _ w11_8 ⟨F11_8, rfl, K⟩
          refine ⟨_, rfl, ?_⟩
          replace H := SH.updP H (i := 0) rfl K
          clear K
          try dsimp only [replC, List.cons_append, List.nil_append, List.append_nil] at H
          refine LW.nil (thenE_norm ⟨fun _ => (SH.sub H SB), ?_⟩)
          refine DL.take (i := 10) [] rfl (by kernel_rfl) (by kernel_rfl) (by kernel_rfl) (by kernel_rfl) rfl rfl (fun u H => x_neq rfl rfl) (SH.sub H SB) ?_
          refine DL.done (by kernel_rfl) ?_
          refine thenE_norm ?_
          refine cut (K := K16) [0, 5, 82] (fun σ => ?_)
          refine zg zm ?_
          refine h16 _ _ ?_; clear h16; try clear K16
          refine CW.condF rfl (by first | rfl | (simp only [zd]; omega) | simp_all) ?_
          refine CW.skip ?_
          refine thenE_norm (h15 _ _ ?_); clear h15; try clear K15
          refine CW.seq fun K17 h17 => zr ?_
          refine zg iA (zn h17 ?_); try clear h17
          refine CW.ret (tR (ret1 Tryz.results95 EV ?_))
          obtain ⟨FR', H2⟩ := SH.lstClose (RepQ.ok R) (SH.sel H [0, 4, 2, 3, 5, 6, 7, 8, 9, 10, 11, 12] (by decide) rfl) hq
          obtain ⟨F', K⟩ := WorldA.mk (k := k) (j := j + 1) ⟨cf, vR, vC, pc, pn, vS, en, va, vd, vk, rs, cs, gR, gC, FR', FC, Fk, ms10_17, lost10_17, FN10_17, bs, gS, ga, gd, gk⟩ ⟨hok.1, hok.2, hok.3, hok.4, hok.5, hok.6, hok.7, hok.8, hf10_17, hok.10, hok.11, by show 0 ≤ lost10_17; omega, by show lost10_17 ≤ _; omega⟩ (SH.sel H2 [1, 2, 0, 3, 4, 5, 6, 7, 8, 9, 10] (by decide) rfl)
          exact ⟨_, _, rfl, K⟩
        · try simp only [zb] at hc3
          refine CW.skip ?_
          refine thenE_norm (h11 _ _ ?_); clear h11; try clear K11
          refine CW.seq (fun K18 h18 => ?_)
          refine CW.drawH [] H (List.Sublist.refl _) (by kernel_rfl) rfl ?_
          clear H
          intro w14d H
          refine DL.take (i := 0) [] rfl (by kernel_rfl) (by kernel_rfl) (by kernel_rfl) (by kernel_rfl) rfl rfl (fun u H => x_fieldAddrO Tryz.underlying180 rfl Tryz.sizeOf3 (by decide) (show _ = 1 from rfl) rfl) H ?_
          refine DL.take (i := 1) [] rfl (by kernel_rfl) (by kernel_rfl) (by kernel_rfl) (by kernel_rfl) rfl rfl (fun u H => x_load Tryz.isAgg3 rfl (by first | exact SH.cellB H AT (by rfl) | assumption)) H ?_
          refine DL.take (i := 2) [] rfl (by kernel_rfl) (by kernel_rfl) (by kernel_rfl) (by kernel_rfl) rfl rfl (fun u H => x_move ) H ?_
          refine DL.take (i := 3) [] rfl (by kernel_rfl) (by kernel_rfl) (by kernel_rfl) (by kernel_rfl) rfl rfl (fun u H => x_nilCheck rfl) H ?_
          refine DL.take (i := 4) [] rfl (by kernel_rfl) (by kernel_rfl) (by kernel_rfl) (by kernel_rfl) rfl rfl (fun u H => x_fieldAddrO Tryz.underlying104 rfl Tryz.sizeOf24 (by decide) (show _ = 0 from rfl) rfl) H ?_
          refine DL.take (i := 5) [] rfl (by kernel_rfl) (by kernel_rfl) (by kernel_rfl) (by kernel_rfl) rfl rfl (fun u H => x_fieldAddrO Tryz.underlying24 rfl Tryz.sizeOf3 (by decide) (show _ = 0 from rfl) rfl) H ?_
          refine DL.take (i := 6) [] rfl (by kernel_rfl) (by kernel_rfl) (by kernel_rfl) (by kernel_rfl) rfl rfl (fun u H => x_load Tryz.isAgg3 rfl (by first | exact SH.cellB H AT (by rfl) | exact SH.cellI H AT (by rfl) | assumption)) H ?_
          refine DL.take (i := 7) [] rfl (by kernel_rfl) (by kernel_rfl) (by kernel_rfl) (by kernel_rfl) rfl rfl (fun u H => x_sub rfl rfl (wr_i64 (by omega) (by omega))) H ?_
          refine DL.take (i := 8) [] rfl (by kernel_rfl) (by kernel_rfl) (by kernel_rfl) (by kernel_rfl) rfl rfl (fun u H => x_assign ) H ?_
          refine DL.done (by kernel_rfl) ?_
          refine thenE_norm ?_
          refine cut (K := K18) [0, 5, 10] (fun σ => ?_)
          refine zg zm ?_
          refine h18 _ _ ?_; clear h18; try clear K18
          refine CW.seq (fun K19 h19 => ?_)
          refine CW.seq (fun K20 h20 => ?_)
          obtain ⟨q, hq⟩ := get_of_lt (show ((netAt ms a.at_).1.dst - R).toNat < cs.length by omega)
          have hpq := ptrs_get hq
          obtain ⟨Fq, Fr, H⟩ := SH.lstOpen CliQ.ok H (j := 4) rfl hq
          dsimp only [replC, List.cons_append, List.nil_append, List.append_nil] at H
          refine CW.drawH [] H (List.Sublist.refl _) (by kernel_rfl) rfl ?_
          clear H
          intro w15d H
          refine DL.take (i := 0) [] rfl (by kernel_rfl) (by kernel_rfl) (by kernel_rfl) (by kernel_rfl) rfl rfl (fun u H => x_move ) H ?_
          refine DL.take (i := 1) [] rfl (by kernel_rfl) (by kernel_rfl) (by kernel_rfl) (by kernel_rfl) rfl rfl (fun u H => x_nilCheck rfl) H ?_
          refine DL.take (i := 2) [] rfl (by kernel_rfl) (by kernel_rfl) (by kernel_rfl) (by kernel_rfl) rfl rfl (fun u H => x_fieldAddrO Tryz.underlying104 rfl Tryz.sizeOf101 (by decide) (show _ = 12 from rfl) rfl) H ?_
          refine DL.take (i := 3) [] rfl (by kernel_rfl) (by kernel_rfl) (by kernel_rfl) (by kernel_rfl) rfl rfl (fun u H => x_load Tryz.isAgg101 rfl (by first | exact SH.cellB H AT (by rfl) | exact SH.cellI H AT (by rfl) | assumption)) H ?_
          refine DL.take (i := 4) [] rfl (by kernel_rfl) (by kernel_rfl) (by kernel_rfl) (by kernel_rfl) rfl rfl (fun u H => x_move ) H ?_
          refine DL.take (i := 5) [] rfl (by kernel_rfl) (by kernel_rfl) (by kernel_rfl) (by kernel_rfl) rfl rfl (fun u H => x_indexAddrV Tryz.underlying101 EV rfl RS (by exact Tryz.sizeOf85) (by omega) (by omega)) H ?_
          refine DL.take (i := 6) [] rfl (by kernel_rfl) (by kernel_rfl) (by kernel_rfl) (by kernel_rfl) rfl rfl (fun u H => x_load Tryz.isAgg85 rfl (by first | exact Rs.cell RS (by assumption) (by rfl) | exact Rs.cell0 RS (by assumption) (by rfl) | assumption)) H ?_
          refine DL.take (i := 7) [] rfl (by kernel_rfl) (by kernel_rfl) (by kernel_rfl) (by kernel_rfl) rfl rfl (fun u H => x_fieldAddrO Tryz.underlying180 rfl Tryz.sizeOf22 (by decide) (show _ = 3 from rfl) rfl) H ?_
          refine DL.take (i := 8) [] rfl (by kernel_rfl) (by kernel_rfl) (by kernel_rfl) (by kernel_rfl) rfl rfl (fun u H => x_load Tryz.isAgg22 rfl (by first | exact SH.cellB H AT (by rfl) | assumption)) H ?_
          refine DL.one (i := 9) (by kernel_rfl) rfl rfl ?_
          refine r_call rfl Tryz.call147 HS (cTake (SH.prop H (i := 4) rfl)) ?_
          rintro _ w15_9 ⟨rfl, rfl⟩
          refine ⟨_, rfl, ?_⟩
          refine LW.nil (thenE_norm ⟨fun _ => (SH.sub H SB), ?_⟩)
          refine DL.done (by kernel_rfl) ?_
          refine thenE_norm ?_
          refine cut (K := K20) [0, 5, 10, 104] (fun σ => ?_)
          refine zg zm ?_
          refine h20 _ _ ?_; clear h20; try clear K20
          refine CW.condF rfl (by first | rfl | (simp only [zd]; omega) | simp_all) ?_
          refine CW.skip ?_
          refine thenE_norm (h19 _ _ ?_); clear h19; try clear K19
          refine CW.seq fun K21 h21 => zr ?_
          refine zg iA (zn h21 ?_); try clear h21
          refine CW.ret (ret1 Tryz.results95 EV ?_)
          obtain ⟨FC', H2⟩ := SH.lstClose CliQ.ok (SH.sel H [4, 5, 0, 1, 2, 3, 6, 7, 9, 10, 11, 12] (by decide) rfl) hq
          obtain ⟨F', K⟩ := WorldA.mk (k := k) (j := j + 1) ⟨cf, vR, vC, pc, pn, vS, en, va, vd, vk, rs, cs, gR, gC, FR, FC', Fk, netCut ms a.at_, lost, FN1_6, bs, gS, ga, gd, gk⟩ ⟨hok.1, hok.2, hok.3, hok.4, hok.5, hok.6, hok.7, hok.8, hfc, hok.10, hok.11, hl0, by show lost ≤ _; omega⟩ (SH.sel H2 [1, 2, 3, 4, 0, 5, 6, 7, 8, 9, 10] (by decide) rfl)
          exact ⟨_, _, rfl, K⟩
  · refine LOp.of rfl rfl ?_
    refine s_alloc (cs := [.int .i64 0, .int .i64 0, .int .i64 0, .slice none 0 0]) H rfl Tryz.zeroValue180 rfl ?_
    clear H
    intro b1_10 w1_10 H
    try dsimp only [replC, List.cons_append, List.nil_append, List.append_nil, agg, cellsL, Value.cells, List.toList_toArray, List.set_cons_zero, List.set_cons_succ, spliceL, List.take_succ_cons, List.take_zero, List.drop_succ_cons, List.drop_zero, List.length_cons, List.length_nil, Nat.reduceAdd, Row.cells, Flight.L, Hd.L, Snd.L, Ev.L] at H
    refine LW.nil (thenE_norm ⟨fun _ => (SH.sub H SB), ?_⟩)
    refine DL.one (i := 6) (by kernel_rfl) rfl rfl ?_
    refine r_call rfl Tryz.call145 HS (Take_c _ _ (SH.prop H AT)) ?_
    rintro _ w1_6 ⟨v1_6, g1_6, FN1_6, rfl, K⟩
    refine ⟨_, rfl, ?_⟩
    replace H := SH.updP H AT K
    clear K
    try dsimp only [replC, List.cons_append, List.nil_append, List.append_nil] at H
    refine LW.nil (thenE_norm ⟨fun _ => (SH.sub H SB), ?_⟩)
    refine DL.take (i := 7) [] rfl (by kernel_rfl) (by kernel_rfl) (by kernel_rfl) (by kernel_rfl) rfl rfl (fun u H => x_move ) (SH.sub H SB) ?_
    refine DL.take (i := 8) [] rfl (by kernel_rfl) (by kernel_rfl) (by kernel_rfl) (by kernel_rfl) rfl rfl (fun u H => x_extract EV (by simp only [List.getElem?_toArray, List.getElem?_cons_zero, List.getElem?_cons_succ] <;> rfl)) (SH.sub H SB) ?_
    refine DL.take (i := 9) [] rfl (by kernel_rfl) (by kernel_rfl) (by kernel_rfl) (by kernel_rfl) rfl rfl (fun u H => x_extract EV (by simp only [List.getElem?_toArray, List.getElem?_cons_zero, List.getElem?_cons_succ] <;> rfl)) (SH.sub H SB) ?_
    refine DL.one (i := 11) (by kernel_rfl) rfl rfl ?_
    refine s_storeA H Tryz.sizeOf180 rfl EV (by simp only [cellsL, agg, List.toList_toArray, Row.cells, Flight.L, Hd.L, Snd.L, Ev.L] <;> rfl) (by rfl) (by first | rfl | assumption | exact Rs.oneC RS | (simp only [List.all_cons, List.all_nil, Bool.and_true, Bool.and_eq_true, Row.cells, Flight.L, Hd.L, Snd.L, Ev.L]; (repeat' constructor) <;> first | rfl | assumption | exact Rs.oneC RS)) AT (by first | (simp; done) | decide | (show _ ≤ _; decide)) ?_
    clear H
    intro w1_11 H
    try dsimp only [replC, List.cons_append, List.nil_append, List.append_nil, agg, cellsL, Value.cells, List.toList_toArray, List.set_cons_zero, List.set_cons_succ, spliceL, List.take_succ_cons, List.take_zero, List.drop_succ_cons, List.drop_zero, List.length_cons, List.length_nil, Nat.reduceAdd, Row.cells, Flight.L, Hd.L, Snd.L, Ev.L] at H
    refine LW.nil (thenE_norm ⟨fun _ => (SH.sub H SB), ?_⟩)
    refine DL.take (i := 12) [] rfl (by kernel_rfl) (by kernel_rfl) (by kernel_rfl) (by kernel_rfl) rfl rfl (fun u H => x_assign ) (SH.sub H SB) ?_
    refine DL.done (by kernel_rfl) ?_
    refine thenE_norm ?_
    refine cut (K := K2) [0, 5, 6] (fun σ => ?_)
    refine zg zm ?_
    refine h2 _ _ ?_; clear h2; try clear K2
    refine CW.seq (fun K22 h22 => ?_)
    refine CW.seq fun K23 h23 => zr ?_
    refine zg (zt iM iN) (zn h23 ?_); try clear h23
    refine CW.cond rfl (fun hc1 => ?_) (fun hc1 => ?_)
    · try simp only [zb] at hc1
      refine CW.seq fun K24 h24 => zr ?_
      refine zg iA (zn h24 ?_); try clear h24
      refine CW.ret (tR (ret1 Tryz.results95 EV ?_))
      obtain ⟨F', K⟩ := WorldA.mk (k := k) (j := j + 1) ⟨cf, vR, vC, pc, pn, vS, en, va, vd, vk, rs, cs, gR, gC, FR, FC, Fk, netCut ms a.at_, lost, FN1_6, bs, gS, ga, gd, gk⟩ ⟨hok.1, hok.2, hok.3, hok.4, hok.5, hok.6, hok.7, hok.8, hfc, hok.10, hok.11, hl0, by show lost ≤ _; omega⟩ (SH.sel H [0, 1, 2, 3, 4, 5, 6, 8, 9, 10, 11] (by decide) rfl)
      exact ⟨_, _, rfl, K⟩
    · try simp only [zb] at hc1
      refine CW.skip ?_
      refine thenE_norm (h22 _ _ ?_); clear h22; try clear K22
      refine CW.seq (fun K25 h25 => ?_)
      refine CW.seq (fun K26 h26 => ?_)
      have hb := netAt_ok hfl (show (netAt ms a.at_).2 = true by simp_all)
      refine CW.region ?_
      refine zg (zt iM (zt (fA 1) iL)) ?_
      refine r_call rfl Tryz.call139 HS (there_c _ _ ⟨⟨cf, vR, vC, pc, pn, vS, en, va, vd, vk, rs, cs, gR, gC, FR, FC, Fk, netCut ms a.at_, lost, FN1_6, bs, gS, ga, gd, gk⟩, ⟨hok.1, hok.2, hok.3, hok.4, hok.5, hok.6, hok.7, hok.8, hfc, hok.10, hok.11, hl0, hl1⟩, SH.objA (SH.sel H [0, 1, 2, 3, 4, 5, 6, 8, 9, 10, 11] (by decide) rfl)⟩) ?_
      rintro _ w4_3 ⟨x4_3, hx4_3, rfl, rfl⟩
      refine ⟨_, rfl, ?_⟩
      refine zg iA (zn h26 ?_); try clear h26
      refine CW.seq fun K27 h27 => zr ?_
      refine zg (zt iM ine) (zc [0, 5, 7, 28] h27 fun σ => zg zm ?_); try clear h27
      refine CW.cond rfl (fun hc2 => ?_) (fun hc2 => ?_)
      · try simp only [zb] at hc2
        refine CW.seq fun K28 h28 => zr ?_
        refine zg (zt iM iA) (zn h28 ?_); try clear h28
        refine CW.ret (tR (ret1 Tryz.results95 EV ?_))
        obtain ⟨F', K⟩ := WorldA.mk (k := k) (j := j + 1) ⟨cf, vR, vC, pc, pn, vS, en, va, vd, vk, rs, cs, gR, gC, FR, FC, Fk, netCut ms a.at_, lost, FN1_6, bs, gS, ga, gd, gk⟩ ⟨hok.1, hok.2, hok.3, hok.4, hok.5, hok.6, hok.7, hok.8, hfc, hok.10, hok.11, hl0, by show lost ≤ _; omega⟩ (SH.sel H [0, 1, 2, 3, 4, 5, 6, 8, 9, 10, 11] (by decide) rfl)
        exact ⟨_, _, rfl, K⟩
      · try simp only [zb] at hc2
        refine CW.skip ?_
        refine thenE_norm (h25 _ _ ?_); clear h25; try clear K25
        refine CW.seq (fun K29 h29 => ?_)
        have hh := hx4_3 (by omega)
        refine CW.drawH [] H (List.Sublist.refl _) (by kernel_rfl) rfl ?_
        clear H
        intro w7d H
        refine DL.take (i := 0) [] rfl (by kernel_rfl) (by kernel_rfl) (by kernel_rfl) (by kernel_rfl) rfl rfl (fun u H => x_move ) H ?_
        refine DL.take (i := 1) [] rfl (by kernel_rfl) (by kernel_rfl) (by kernel_rfl) (by kernel_rfl) rfl rfl (fun u H => x_nilCheck rfl) H ?_
        refine DL.take (i := 2) [] rfl (by kernel_rfl) (by kernel_rfl) (by kernel_rfl) (by kernel_rfl) rfl rfl (fun u H => x_fieldAddrO Tryz.underlying104 rfl Tryz.sizeOf93 (by decide) (show _ = 13 from rfl) rfl) H ?_
        refine DL.take (i := 3) [] rfl (by kernel_rfl) (by kernel_rfl) (by kernel_rfl) (by kernel_rfl) rfl rfl (fun u H => x_load Tryz.isAgg93 rfl (by first | exact SH.cellB H AT (by rfl) | exact SH.cellI H AT (by rfl) | assumption)) H ?_
        refine DL.take (i := 4) [] rfl (by kernel_rfl) (by kernel_rfl) (by kernel_rfl) (by kernel_rfl) rfl rfl (fun u H => x_fieldAddrO Tryz.underlying180 rfl Tryz.sizeOf3 (by decide) (show _ = 1 from rfl) rfl) H ?_
        refine DL.take (i := 5) [] rfl (by kernel_rfl) (by kernel_rfl) (by kernel_rfl) (by kernel_rfl) rfl rfl (fun u H => x_load Tryz.isAgg3 rfl (by first | exact SH.cellB H AT (by rfl) | assumption)) H ?_
        refine DL.one (i := 6) (by kernel_rfl) rfl rfl ?_
        refine r_call rfl Tryz.call111 HS (ClockNow_c _ _ (SH.prop H AT)) ?_
        rintro _ w7_6 ⟨x7_6, rfl, rfl⟩
        refine ⟨_, rfl, ?_⟩
        refine LW.nil (thenE_norm ⟨fun _ => (SH.sub H SB), ?_⟩)
        refine DL.take (i := 7) [] rfl (by kernel_rfl) (by kernel_rfl) (by kernel_rfl) (by kernel_rfl) rfl rfl (fun u H => x_assign ) (SH.sub H SB) ?_
        refine DL.done (by kernel_rfl) ?_
        refine thenE_norm ?_
        refine cut (K := K29) [0, 5, 8] (fun σ => ?_)
        refine zg zm ?_
        refine h29 _ _ ?_; clear h29; try clear K29
        refine CW.seq (fun K30 h30 => ?_)
        refine CW.seq (fun K31 h31 => ?_)
        refine CW.drawH [] H (List.Sublist.refl _) (by kernel_rfl) rfl ?_
        clear H
        intro w8d H
        refine DL.take (i := 0) [] rfl (by kernel_rfl) (by kernel_rfl) (by kernel_rfl) (by kernel_rfl) rfl rfl (fun u H => x_fieldAddrO Tryz.underlying180 rfl Tryz.sizeOf3 (by decide) (show _ = 1 from rfl) rfl) H ?_
        refine DL.take (i := 1) [] rfl (by kernel_rfl) (by kernel_rfl) (by kernel_rfl) (by kernel_rfl) rfl rfl (fun u H => x_load Tryz.isAgg3 rfl (by first | exact SH.cellB H AT (by rfl) | assumption)) H ?_
        refine DL.take (i := 2) [] rfl (by kernel_rfl) (by kernel_rfl) (by kernel_rfl) (by kernel_rfl) rfl rfl (fun u H => x_move ) H ?_
        refine DL.take (i := 3) [] rfl (by kernel_rfl) (by kernel_rfl) (by kernel_rfl) (by kernel_rfl) rfl rfl (fun u H => x_nilCheck rfl) H ?_
        refine DL.take (i := 4) [] rfl (by kernel_rfl) (by kernel_rfl) (by kernel_rfl) (by kernel_rfl) rfl rfl (fun u H => x_fieldAddrO Tryz.underlying104 rfl Tryz.sizeOf24 (by decide) (show _ = 0 from rfl) rfl) H ?_
        refine DL.take (i := 5) [] rfl (by kernel_rfl) (by kernel_rfl) (by kernel_rfl) (by kernel_rfl) rfl rfl (fun u H => x_fieldAddrO Tryz.underlying24 rfl Tryz.sizeOf3 (by decide) (show _ = 0 from rfl) rfl) H ?_
        refine DL.take (i := 6) [] rfl (by kernel_rfl) (by kernel_rfl) (by kernel_rfl) (by kernel_rfl) rfl rfl (fun u H => x_load Tryz.isAgg3 rfl (by first | exact SH.cellB H AT (by rfl) | exact SH.cellI H AT (by rfl) | assumption)) H ?_
        refine DL.take (i := 7) [] rfl (by kernel_rfl) (by kernel_rfl) (by kernel_rfl) (by kernel_rfl) rfl rfl (fun u H => x_lss rfl rfl) H ?_
        refine DL.done (by kernel_rfl) ?_
        refine thenE_norm ?_
        refine cut (K := K31) [0, 5, 8, 44] (fun σ => ?_)
        refine zg zm ?_
        refine h31 _ _ ?_; clear h31; try clear K31
        refine CW.cond rfl (fun hc3 => ?_) (fun hc3 => ?_)
        · try simp only [zb] at hc3
          refine CW.seq (fun K32 h32 => ?_)
          obtain ⟨q, hq⟩ := get_of_lt (show (netAt ms a.at_).1.dst.toNat < rs.length by omega)
          have hpq := ptrs_get hq
          have hid : (netAt ms a.at_).1.dst.toNat < R := by omega
          obtain ⟨Fq, Fr, H⟩ := SH.lstOpen (RepQ.ok R) H (j := 2) rfl hq
          dsimp only [replC, List.cons_append, List.nil_append, List.append_nil] at H
          refine CW.drawP [0, 1, 3, 4, 5, 6, 7, 8, 9, 10, 11, 12, 13, 14] [] H (by dsimp only [pickC, nthC] <;> rfl) SB (by kernel_rfl) rfl ?_
          clear H
          intro w9d H
          refine DL.take (i := 0) [] rfl (by kernel_rfl) (by kernel_rfl) (by kernel_rfl) (by kernel_rfl) rfl rfl (fun u H => x_move ) (SH.sub H SB) ?_
          refine DL.take (i := 1) [] rfl (by kernel_rfl) (by kernel_rfl) (by kernel_rfl) (by kernel_rfl) rfl rfl (fun u H => x_nilCheck rfl) (SH.sub H SB) ?_
          refine DL.take (i := 2) [] rfl (by kernel_rfl) (by kernel_rfl) (by kernel_rfl) (by kernel_rfl) rfl rfl (fun u H => x_fieldAddrO Tryz.underlying104 rfl Tryz.sizeOf100 (by decide) (show _ = 11 from rfl) rfl) (SH.sub H SB) ?_
          refine DL.take (i := 3) [] rfl (by kernel_rfl) (by kernel_rfl) (by kernel_rfl) (by kernel_rfl) rfl rfl (fun u H => x_load Tryz.isAgg100 rfl (by first | exact SH.cellB H AT (by rfl) | exact SH.cellI H AT (by rfl) | assumption)) (SH.sub H SB) ?_
          refine DL.take (i := 4) [] rfl (by kernel_rfl) (by kernel_rfl) (by kernel_rfl) (by kernel_rfl) rfl rfl (fun u H => x_fieldAddrO Tryz.underlying180 rfl Tryz.sizeOf3 (by decide) (show _ = 1 from rfl) rfl) (SH.sub H SB) ?_
          refine DL.take (i := 5) [] rfl (by kernel_rfl) (by kernel_rfl) (by kernel_rfl) (by kernel_rfl) rfl rfl (fun u H => x_load Tryz.isAgg3 rfl (by first | exact SH.cellB H AT (by rfl) | assumption)) (SH.sub H SB) ?_
          refine DL.take (i := 6) [] rfl (by kernel_rfl) (by kernel_rfl) (by kernel_rfl) (by kernel_rfl) rfl rfl (fun u H => x_indexAddrV Tryz.underlying100 EV rfl RS (by exact Tryz.sizeOf60) (by omega) (by omega)) (SH.sub H SB) ?_
          refine DL.take (i := 7) [] rfl (by kernel_rfl) (by kernel_rfl) (by kernel_rfl) (by kernel_rfl) rfl rfl (fun u H => x_load Tryz.isAgg60 rfl (by first | exact Rs.cell RS (by assumption) (by rfl) | exact Rs.cell0 RS (by assumption) (by rfl) | assumption)) (SH.sub H SB) ?_
          refine DL.one (i := 8) (by kernel_rfl) rfl rfl ?_
          refine r_call rfl Tryz.call21 HS (rDone hRr hid (SH.prop H (i := 2) rfl)) ?_
          rintro _ w9_8 ⟨F9_8, rfl, K⟩
          refine ⟨_, rfl, ?_⟩
          replace H := SH.updP H (i := 2) rfl K
          clear K
          try dsimp only [replC, List.cons_append, List.nil_append, List.append_nil] at H
          refine LW.nil (thenE_norm ⟨fun _ => (SH.sub H SB), ?_⟩)
          refine DL.take (i := 9) [] rfl (by kernel_rfl) (by kernel_rfl) (by kernel_rfl) (by kernel_rfl) rfl rfl (fun u H => x_assign ) (SH.sub H SB) ?_
          refine DL.done (by kernel_rfl) ?_
          refine thenE_norm ?_
          refine cut (K := K32) [0, 5, 8, 9] (fun σ => ?_)
          refine zg zm ?_
          refine h32 _ _ ?_; clear h32; try clear K32
          refine CW.seq (fun K33 h33 => ?_)
          have hap : ∀ b, g1_6 = some b → ¬ F9_8 b := fun b h1 h2 => (SH.val H).apart (i := 8) (j := 2) rfl rfl (by decide) (.inl trivial) b h1 h2
          replace H := SH.absorb (A' := TakeIn R _ q v1_6 _ g1_6 F9_8) (SH.sel H [2, 8, 0, 1, 3, 4, 5, 6, 7, 9, 10, 11, 12, 13, 14] (by decide) rfl) trivial TakeIn.st (fun h1 h2 => ⟨h1, h2⟩)
          dsimp only [Ch.F] at H
          refine CW.drawP [1, 2, 3, 4, 5, 6, 8, 9, 10, 11, 12, 13] [] H (by dsimp only [pickC, nthC] <;> rfl) SB (by kernel_rfl) rfl ?_
          clear H
          intro w10d H
          refine DL.take (i := 0) [] rfl (by kernel_rfl) (by kernel_rfl) (by kernel_rfl) (by kernel_rfl) rfl rfl (fun u H => x_move ) (SH.sub H SB) ?_
          refine DL.take (i := 1) [] rfl (by kernel_rfl) (by kernel_rfl) (by kernel_rfl) (by kernel_rfl) rfl rfl (fun u H => x_fieldAddrO Tryz.underlying180 rfl Tryz.sizeOf3 (by decide) (show _ = 1 from rfl) rfl) (SH.sub H SB) ?_
          refine DL.take (i := 2) [] rfl (by kernel_rfl) (by kernel_rfl) (by kernel_rfl) (by kernel_rfl) rfl rfl (fun u H => x_load Tryz.isAgg3 rfl (by first | exact SH.cellB H AT (by rfl) | assumption)) (SH.sub H SB) ?_
          refine DL.take (i := 3) [] rfl (by kernel_rfl) (by kernel_rfl) (by kernel_rfl) (by kernel_rfl) rfl rfl (fun u H => x_move ) (SH.sub H SB) ?_
          refine DL.take (i := 4) [] rfl (by kernel_rfl) (by kernel_rfl) (by kernel_rfl) (by kernel_rfl) rfl rfl (fun u H => x_nilCheck rfl) (SH.sub H SB) ?_
          refine DL.take (i := 5) [] rfl (by kernel_rfl) (by kernel_rfl) (by kernel_rfl) (by kernel_rfl) rfl rfl (fun u H => x_fieldAddrO Tryz.underlying104 rfl Tryz.sizeOf100 (by decide) (show _ = 11 from rfl) rfl) (SH.sub H SB) ?_
          refine DL.take (i := 6) [] rfl (by kernel_rfl) (by kernel_rfl) (by kernel_rfl) (by kernel_rfl) rfl rfl (fun u H => x_load Tryz.isAgg100 rfl (by first | exact SH.cellB H AT (by rfl) | exact SH.cellI H AT (by rfl) | assumption)) (SH.sub H SB) ?_
          refine DL.take (i := 7) [] rfl (by kernel_rfl) (by kernel_rfl) (by kernel_rfl) (by kernel_rfl) rfl rfl (fun u H => x_fieldAddrO Tryz.underlying180 rfl Tryz.sizeOf3 (by decide) (show _ = 1 from rfl) rfl) (SH.sub H SB) ?_
          refine DL.take (i := 8) [] rfl (by kernel_rfl) (by kernel_rfl) (by kernel_rfl) (by kernel_rfl) rfl rfl (fun u H => x_load Tryz.isAgg3 rfl (by first | exact SH.cellB H AT (by rfl) | assumption)) (SH.sub H SB) ?_
          refine DL.take (i := 9) [] rfl (by kernel_rfl) (by kernel_rfl) (by kernel_rfl) (by kernel_rfl) rfl rfl (fun u H => x_indexAddrV Tryz.underlying100 EV rfl RS (by exact Tryz.sizeOf60) (by omega) (by omega)) (SH.sub H SB) ?_
          refine DL.take (i := 10) [] rfl (by kernel_rfl) (by kernel_rfl) (by kernel_rfl) (by kernel_rfl) rfl rfl (fun u H => x_load Tryz.isAgg60 rfl (by first | exact Rs.cell RS (by assumption) (by rfl) | exact Rs.cell0 RS (by assumption) (by rfl) | assumption)) (SH.sub H SB) ?_
          refine DL.take (i := 11) [] rfl (by kernel_rfl) (by kernel_rfl) (by kernel_rfl) (by kernel_rfl) rfl rfl (fun u H => x_fieldAddrO Tryz.underlying180 rfl Tryz.sizeOf3 (by decide) (show _ = 0 from rfl) rfl) (SH.sub H SB) ?_
          refine DL.take (i := 12) [] rfl (by kernel_rfl) (by kernel_rfl) (by kernel_rfl) (by kernel_rfl) rfl rfl (fun u H => x_load Tryz.isAgg3 rfl (by first | exact SH.cellB H AT (by rfl) | assumption)) (SH.sub H SB) ?_
          refine DL.take (i := 13) [] rfl (by kernel_rfl) (by kernel_rfl) (by kernel_rfl) (by kernel_rfl) rfl rfl (fun u H => x_fieldAddrO Tryz.underlying180 rfl Tryz.sizeOf22 (by decide) (show _ = 3 from rfl) rfl) (SH.sub H SB) ?_
          refine DL.take (i := 14) [] rfl (by kernel_rfl) (by kernel_rfl) (by kernel_rfl) (by kernel_rfl) rfl rfl (fun u H => x_load Tryz.isAgg22 rfl (by first | exact SH.cellB H AT (by rfl) | assumption)) (SH.sub H SB) ?_
          refine DL.take (i := 15) [] rfl (by kernel_rfl) (by kernel_rfl) (by kernel_rfl) (by kernel_rfl) rfl rfl (fun u H => x_move ) (SH.sub H SB) ?_
          refine DL.one (i := 16) (by kernel_rfl) rfl rfl ?_
          refine r_call rfl Tryz.call146 HS (rTakeAny hRr hid _ _ (SH.prop H (i := 0) rfl) hb hap) ?_
          rintro _ w10_16 ⟨v10_16, ss10_16, F10_16, FS10_16, rfl, hss10_16, K⟩
          refine ⟨_, rfl, ?_⟩
          replace H := SH.updP H (i := 0) rfl K
          clear K
          try dsimp only [replC, List.cons_append, List.nil_append, List.append_nil] at H
          refine LW.nil (thenE_norm ⟨fun _ => (SH.sub H SB), ?_⟩)
          refine DL.one (i := 17) (by kernel_rfl) rfl rfl ?_
          refine r_call rfl Tryz.call140 HS (put_c (s := ⟨cf, vR, vC, pc, pn, vS, en, va, vd, vk, rs, cs, gR, gC, FR, FC, Fk, ms, lost, FN1_6, bs, gS, ga, gd, gk⟩) _ _ (SH.blk H (i := 2) rfl) (SH.prop H (i := 8) rfl) (SH.prop H (i := 1) rfl) (fun b hb => (SH.val H).1 _ (At.mem (i := 1) rfl) |>.lt b hb) (fun hb => (SH.val H).apart (i := 2) (j := 8) rfl rfl (by decide) (.inl trivial) _ rfl hb) (fun b h1 h2 => (SH.val H).apart (i := 1) (j := 8) rfl rfl (by decide) (.inl trivial) b h1 h2) hss10_16.2 hss10_16.1 hfc hl0 (by omega)) ?_
          rintro _ w10_17 ⟨ms10_17, lost10_17, FN10_17, rfl, hf10_17, hl10_17, hm10_17, K⟩
          refine ⟨_, rfl, ?_⟩
          replace H := SH.updP H (i := 8) rfl K
          clear K
          try dsimp only [replC, List.cons_append, List.nil_append, List.append_nil] at H
          refine LW.nil (thenE_norm ⟨fun _ => (SH.sub H SB), ?_⟩)
          refine DL.done (by kernel_rfl) ?_
          refine thenE_norm ?_
          refine cut (K := K33) [0, 5, 9] (fun σ => ?_)
          refine zg zm ?_
          refine h33 _ _ ?_; clear h33; try clear K33
          refine CW.seq (fun K34 h34 => ?_)
          refine CW.seq (fun K35 h35 => ?_)
          refine CW.drawP [1, 2, 3, 4, 5, 6, 7, 8, 9, 10, 11, 12, 13, 14] [] H (by dsimp only [pickC, nthC] <;> rfl) SB (by kernel_rfl) rfl ?_
          clear H
          intro w11d H
          refine DL.take (i := 0) [] rfl (by kernel_rfl) (by kernel_rfl) (by kernel_rfl) (by kernel_rfl) rfl rfl (fun u H => x_move ) (SH.sub H SB) ?_
          refine DL.take (i := 1) [] rfl (by kernel_rfl) (by kernel_rfl) (by kernel_rfl) (by kernel_rfl) rfl rfl (fun u H => x_nilCheck rfl) (SH.sub H SB) ?_
          refine DL.take (i := 2) [] rfl (by kernel_rfl) (by kernel_rfl) (by kernel_rfl) (by kernel_rfl) rfl rfl (fun u H => x_fieldAddrO Tryz.underlying104 rfl Tryz.sizeOf100 (by decide) (show _ = 11 from rfl) rfl) (SH.sub H SB) ?_
          refine DL.take (i := 3) [] rfl (by kernel_rfl) (by kernel_rfl) (by kernel_rfl) (by kernel_rfl) rfl rfl (fun u H => x_load Tryz.isAgg100 rfl (by first | exact SH.cellB H AT (by rfl) | exact SH.cellI H AT (by rfl) | assumption)) (SH.sub H SB) ?_
          refine DL.take (i := 4) [] rfl (by kernel_rfl) (by kernel_rfl) (by kernel_rfl) (by kernel_rfl) rfl rfl (fun u H => x_fieldAddrO Tryz.underlying180 rfl Tryz.sizeOf3 (by decide) (show _ = 1 from rfl) rfl) (SH.sub H SB) ?_
          refine DL.take (i := 5) [] rfl (by kernel_rfl) (by kernel_rfl) (by kernel_rfl) (by kernel_rfl) rfl rfl (fun u H => x_load Tryz.isAgg3 rfl (by first | exact SH.cellB H AT (by rfl) | assumption)) (SH.sub H SB) ?_
          refine DL.take (i := 6) [] rfl (by kernel_rfl) (by kernel_rfl) (by kernel_rfl) (by kernel_rfl) rfl rfl (fun u H => x_indexAddrV Tryz.underlying100 EV rfl RS (by exact Tryz.sizeOf60) (by omega) (by omega)) (SH.sub H SB) ?_
          refine DL.take (i := 7) [] rfl (by kernel_rfl) (by kernel_rfl) (by kernel_rfl) (by kernel_rfl) rfl rfl (fun u H => x_load Tryz.isAgg60 rfl (by first | exact Rs.cell RS (by assumption) (by rfl) | exact Rs.cell0 RS (by assumption) (by rfl) | assumption)) (SH.sub H SB) ?_
          refine DL.take (i := 9) [] rfl (by kernel_rfl) (by kernel_rfl) (by kernel_rfl) (by kernel_rfl) rfl rfl (fun u H => x_move ) (SH.sub H SB) ?_
          refine DL.one (i := 8) (by kernel_rfl) rfl rfl ?_
          refine r_call rfl Tryz.call21 HS (rDone hRr hid (SH.prop H (i := 0) rfl)) ?_
          rintro _ w11_8 ⟨F11_8, rfl, K⟩
          refine ⟨_, rfl, ?_⟩
          replace H := SH.updP H (i := 0) rfl K
          clear K
          try dsimp only [replC, List.cons_append, List.nil_append, List.append_nil] at H
          refine LW.nil (thenE_norm ⟨fun _ => (SH.sub H SB), ?_⟩)
          refine DL.take (i := 10) [] rfl (by kernel_rfl) (by kernel_rfl) (by kernel_rfl) (by kernel_rfl) rfl rfl (fun u H => x_neq rfl rfl) (SH.sub H SB) ?_
          refine DL.done (by kernel_rfl) ?_
          refine thenE_norm ?_
          refine cut (K := K35) [0, 5, 82] (fun σ => ?_)
          refine zg zm ?_
          refine h35 _ _ ?_; clear h35; try clear K35
          refine CW.condF rfl (by first | rfl | (simp only [zd]; omega) | simp_all) ?_
          refine CW.skip ?_
          refine thenE_norm (h34 _ _ ?_); clear h34; try clear K34
          refine CW.seq fun K36 h36 => zr ?_
          refine zg iA (zn h36 ?_); try clear h36
          refine CW.ret (tR (ret1 Tryz.results95 EV ?_))
          obtain ⟨FR', H2⟩ := SH.lstClose (RepQ.ok R) (SH.sel H [0, 4, 2, 3, 5, 6, 7, 8, 9, 10, 11, 12] (by decide) rfl) hq
          obtain ⟨F', K⟩ := WorldA.mk (k := k) (j := j + 1) ⟨cf, vR, vC, pc, pn, vS, en, va, vd, vk, rs, cs, gR, gC, FR', FC, Fk, ms10_17, lost10_17, FN10_17, bs, gS, ga, gd, gk⟩ ⟨hok.1, hok.2, hok.3, hok.4, hok.5, hok.6, hok.7, hok.8, hf10_17, hok.10, hok.11, by show 0 ≤ lost10_17; omega, by show lost10_17 ≤ _; omega⟩ (SH.sel H2 [1, 2, 0, 3, 4, 5, 6, 7, 8, 9, 10] (by decide) rfl)
          exact ⟨_, _, rfl, K⟩
        · try simp only [zb] at hc3
          refine CW.skip ?_
          refine thenE_norm (h30 _ _ ?_); clear h30; try clear K30
          refine CW.seq (fun K37 h37 => ?_)
          refine CW.drawH [] H (List.Sublist.refl _) (by kernel_rfl) rfl ?_
          clear H
          intro w14d H
          refine DL.take (i := 0) [] rfl (by kernel_rfl) (by kernel_rfl) (by kernel_rfl) (by kernel_rfl) rfl rfl (fun u H => x_fieldAddrO Tryz.underlying180 rfl Tryz.sizeOf3 (by decide) (show _ = 1 from rfl) rfl) H ?_
          refine DL.take (i := 1) [] rfl (by kernel_rfl) (by kernel_rfl) (by kernel_rfl) (by kernel_rfl) rfl rfl (fun u H => x_load Tryz.isAgg3 rfl (by first | exact SH.cellB H AT (by rfl) | assumption)) H ?_
          refine DL.take (i := 2) [] rfl (by kernel_rfl) (by kernel_rfl) (by kernel_rfl) (by kernel_rfl) rfl rfl (fun u H => x_move ) H ?_
          refine DL.take (i := 3) [] rfl (by kernel_rfl) (by kernel_rfl) (by kernel_rfl) (by kernel_rfl) rfl rfl (fun u H => x_nilCheck rfl) H ?_
          refine DL.take (i := 4) [] rfl (by kernel_rfl) (by kernel_rfl) (by kernel_rfl) (by kernel_rfl) rfl rfl (fun u H => x_fieldAddrO Tryz.underlying104 rfl Tryz.sizeOf24 (by decide) (show _ = 0 from rfl) rfl) H ?_
          refine DL.take (i := 5) [] rfl (by kernel_rfl) (by kernel_rfl) (by kernel_rfl) (by kernel_rfl) rfl rfl (fun u H => x_fieldAddrO Tryz.underlying24 rfl Tryz.sizeOf3 (by decide) (show _ = 0 from rfl) rfl) H ?_
          refine DL.take (i := 6) [] rfl (by kernel_rfl) (by kernel_rfl) (by kernel_rfl) (by kernel_rfl) rfl rfl (fun u H => x_load Tryz.isAgg3 rfl (by first | exact SH.cellB H AT (by rfl) | exact SH.cellI H AT (by rfl) | assumption)) H ?_
          refine DL.take (i := 7) [] rfl (by kernel_rfl) (by kernel_rfl) (by kernel_rfl) (by kernel_rfl) rfl rfl (fun u H => x_sub rfl rfl (wr_i64 (by omega) (by omega))) H ?_
          refine DL.take (i := 8) [] rfl (by kernel_rfl) (by kernel_rfl) (by kernel_rfl) (by kernel_rfl) rfl rfl (fun u H => x_assign ) H ?_
          refine DL.done (by kernel_rfl) ?_
          refine thenE_norm ?_
          refine cut (K := K37) [0, 5, 10] (fun σ => ?_)
          refine zg zm ?_
          refine h37 _ _ ?_; clear h37; try clear K37
          refine CW.seq (fun K38 h38 => ?_)
          refine CW.seq (fun K39 h39 => ?_)
          obtain ⟨q, hq⟩ := get_of_lt (show ((netAt ms a.at_).1.dst - R).toNat < cs.length by omega)
          have hpq := ptrs_get hq
          obtain ⟨Fq, Fr, H⟩ := SH.lstOpen CliQ.ok H (j := 4) rfl hq
          dsimp only [replC, List.cons_append, List.nil_append, List.append_nil] at H
          refine CW.drawH [] H (List.Sublist.refl _) (by kernel_rfl) rfl ?_
          clear H
          intro w15d H
          refine DL.take (i := 0) [] rfl (by kernel_rfl) (by kernel_rfl) (by kernel_rfl) (by kernel_rfl) rfl rfl (fun u H => x_move ) H ?_
          refine DL.take (i := 1) [] rfl (by kernel_rfl) (by kernel_rfl) (by kernel_rfl) (by kernel_rfl) rfl rfl (fun u H => x_nilCheck rfl) H ?_
          refine DL.take (i := 2) [] rfl (by kernel_rfl) (by kernel_rfl) (by kernel_rfl) (by kernel_rfl) rfl rfl (fun u H => x_fieldAddrO Tryz.underlying104 rfl Tryz.sizeOf101 (by decide) (show _ = 12 from rfl) rfl) H ?_
          refine DL.take (i := 3) [] rfl (by kernel_rfl) (by kernel_rfl) (by kernel_rfl) (by kernel_rfl) rfl rfl (fun u H => x_load Tryz.isAgg101 rfl (by first | exact SH.cellB H AT (by rfl) | exact SH.cellI H AT (by rfl) | assumption)) H ?_
          refine DL.take (i := 4) [] rfl (by kernel_rfl) (by kernel_rfl) (by kernel_rfl) (by kernel_rfl) rfl rfl (fun u H => x_move ) H ?_
          refine DL.take (i := 5) [] rfl (by kernel_rfl) (by kernel_rfl) (by kernel_rfl) (by kernel_rfl) rfl rfl (fun u H => x_indexAddrV Tryz.underlying101 EV rfl RS (by exact Tryz.sizeOf85) (by omega) (by omega)) H ?_
          refine DL.take (i := 6) [] rfl (by kernel_rfl) (by kernel_rfl) (by kernel_rfl) (by kernel_rfl) rfl rfl (fun u H => x_load Tryz.isAgg85 rfl (by first | exact Rs.cell RS (by assumption) (by rfl) | exact Rs.cell0 RS (by assumption) (by rfl) | assumption)) H ?_
          refine DL.take (i := 7) [] rfl (by kernel_rfl) (by kernel_rfl) (by kernel_rfl) (by kernel_rfl) rfl rfl (fun u H => x_fieldAddrO Tryz.underlying180 rfl Tryz.sizeOf22 (by decide) (show _ = 3 from rfl) rfl) H ?_
          refine DL.take (i := 8) [] rfl (by kernel_rfl) (by kernel_rfl) (by kernel_rfl) (by kernel_rfl) rfl rfl (fun u H => x_load Tryz.isAgg22 rfl (by first | exact SH.cellB H AT (by rfl) | assumption)) H ?_
          refine DL.one (i := 9) (by kernel_rfl) rfl rfl ?_
          refine r_call rfl Tryz.call147 HS (cTake (SH.prop H (i := 4) rfl)) ?_
          rintro _ w15_9 ⟨rfl, rfl⟩
          refine ⟨_, rfl, ?_⟩
          refine LW.nil (thenE_norm ⟨fun _ => (SH.sub H SB), ?_⟩)
          refine DL.done (by kernel_rfl) ?_
          refine thenE_norm ?_
          refine cut (K := K39) [0, 5, 10, 104] (fun σ => ?_)
          refine zg zm ?_
          refine h39 _ _ ?_; clear h39; try clear K39
          refine CW.condF rfl (by first | rfl | (simp only [zd]; omega) | simp_all) ?_
          refine CW.skip ?_
          refine thenE_norm (h38 _ _ ?_); clear h38; try clear K38
          refine CW.seq fun K40 h40 => zr ?_
          refine zg iA (zn h40 ?_); try clear h40
          refine CW.ret (ret1 Tryz.results95 EV ?_)
          obtain ⟨FC', H2⟩ := SH.lstClose CliQ.ok (SH.sel H [4, 5, 0, 1, 2, 3, 6, 7, 9, 10, 11, 12] (by decide) rfl) hq
          obtain ⟨F', K⟩ := WorldA.mk (k := k) (j := j + 1) ⟨cf, vR, vC, pc, pn, vS, en, va, vd, vk, rs, cs, gR, gC, FR, FC', Fk, netCut ms a.at_, lost, FN1_6, bs, gS, ga, gd, gk⟩ ⟨hok.1, hok.2, hok.3, hok.4, hok.5, hok.6, hok.7, hok.8, hfc, hok.10, hok.11, hl0, by show lost ≤ _; omega⟩ (SH.sel H2 [1, 2, 3, 4, 0, 5, 6, 7, 8, 9, 10] (by decide) rfl)
          exact ⟨_, _, rfl, K⟩
end Go.Proofs.YtgmmbdmdimkfjaaGreat
