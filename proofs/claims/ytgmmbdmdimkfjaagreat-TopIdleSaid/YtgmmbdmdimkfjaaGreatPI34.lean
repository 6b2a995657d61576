/-
  What a world does at an event: all kinds but the asking
-/
import Derived.Test.YtgmmbdmdimkfjaaGreatPI33
import Derived.Test.YtgmmbdmdimkfjaaGreatPI05
namespace Go.Proofs.YtgmmbdmdimkfjaaGreat
set_option linter.unusedSimpArgs false
set_option linter.unusedVariables false
set_option maxRecDepth 20000
open Go.V Go.RowKit Go.ChangeShapes Go.WideShapes
/-- Which events there are: no asking; a rate of the list; a time from 0 to 8; three bytes that end in 7. -/
def EvA (FE : Nat → Prop) (a : Ev) (w : World) : Prop := a.kind ≠ 8 ∧ (a.kind = 5 → 0 ≤ a.n ∧ a.n ≤ 8) ∧ (a.kind = 6 → a.rate ∈ ratesL) ∧ (a.kind = 9 → ∃ bb x y, FE bb ∧ a.bytes = .slice (some ⟨bb, 0, none⟩) 3 3 ∧ Blk w bb 5 [u8v x, u8v y, u8v 7])
theorem EvA.st {FE : Nat → Prop} {a : Ev} : Ch.St FE (EvA FE a) := by
  intro V w w' h e hd
  refine ⟨h.1, h.2.1, h.2.2.1, fun h9 => ?_⟩
  obtain ⟨bb, x, y, h1, h2, h3⟩ := h.2.2.2 h9
  exact ⟨bb, x, y, h1, h2, h3.up e (hd bb h1)⟩
def DoesR (R C p k j : Nat) (F : Nat → Prop) (w : World) (e : Ending) (w' : World) : Prop := ∃ x F', e = .returned (.int .i64 x) ∧ SH F Non w w' [.P F' (WorldA R C p k (j + 1) F')]
theorem c2 {P : Program} {f : FuncId} {x y : Value} {w : World} {R : Ending → World → Prop} (h : Calls P f #[x, y] w R) : Calls P f ([x] ++ [y] ++ ([] : List Value)).toArray w R := h
theorem kind_c {p : Nat} {FE : Nat → Prop} (a : Ev) (h1 : 1 ≤ a.kind) (h9 : a.kind ≤ 9) (h8 : a.kind ≠ 8) : ∃ fid, (kindsL p)[(a.kind - 1).toNat]? = some ⟨.func (.func fid) [.pointer (some ⟨p, 0, none⟩)].toArray ([] : List Value).toArray⟩ ∧ (∀ (l : Array Value) w, (callFunc fid l).run Tryz.prog w = .ok (.enter fid l) w) ∧
    ∀ R C k j F w, WorldA R C p k j F w → j ≤ 1000 → EvA FE a w → (∀ b, FE b → ¬ F b) → Calls Tryz.prog fid ([Value.pointer (some ⟨p, 0, none⟩)] ++ [agg a] ++ ([] : List Value)).toArray w (DoesR R C p k j F w) := by
  obtain ⟨ak, ah, aa, an, ar, ac, am, ab⟩ := a
  dsimp only at h1 h9 h8
  rcases (by omega : ak = 1 ∨ ak = 2 ∨ ak = 3 ∨ ak = 4 ∨ ak = 5 ∨ ak = 6 ∨ ak = 7 ∨ ak = 9) with rfl | rfl | rfl | rfl | rfl | rfl | rfl | rfl
  · exact ⟨_, rfl, Tryz.call94, fun R C k j F w h hj hE hd => c2 (step_c _ w h hj)⟩
  · exact ⟨_, rfl, Tryz.call95, fun R C k j F w h hj hE hd => c2 (deliver_c _ w h hj)⟩
  · exact ⟨_, rfl, Tryz.call96, fun R C k j F w h hj hE hd => c2 (drop_c _ w h hj)⟩
  · exact ⟨_, rfl, Tryz.call97, fun R C k j F w h hj hE hd => c2 (twice_c _ w h hj)⟩
  · exact ⟨_, rfl, Tryz.call98, fun R C k j F w h hj hE hd => c2 (pass_c _ w h (hE.2.1 rfl).1 (hE.2.1 rfl).2)⟩
  · exact ⟨_, rfl, Tryz.call99, fun R C k j F w h hj hE hd => c2 (rate_c _ w h (hE.2.2.1 rfl))⟩
  · exact ⟨_, rfl, Tryz.call100, fun R C k j F w h hj hE hd => c2 (halt_c _ w h)⟩
  · refine ⟨_, rfl, Tryz.call102, fun R C k j F w h hj hE hd => ?_⟩
    obtain ⟨bb, x, y, q1, q2, q3⟩ := hE.2.2.2 rfl
    exact c2 (inject_c _ w h hj q2 q3 (hd bb q1))
theorem SH.footI {U G FE : Nat → Prop} {A : World → Prop} {w0 w : World} {M : List Ch} (H : SH U G w0 w (.I FE A :: M)) (ho : AllOwn M) : ∀ b, FE b → ¬ foot M b := fun b hb ⟨c, hc, h2⟩ => (List.pairwise_cons.1 H.val.2).1 c hc (.inr (ho.mem c hc)) b hb h2
theorem SH.packUpd {U G : Nat → Prop} {w0 w w' : World} {M L N : List Ch} (H : SH U G w0 w (M ++ L)) (ho : AllOwn M) (K : SH (foot M) Non w w' N) : SH U G w0 w' (N ++ L) :=
  SH.updP (SH.pack (A := fun u => ObjA (foot M) u M) H ho (fun V w w' h e hd => ObjA.up h e hd) (fun h => h)) (i := 0) rfl K
theorem SH.packUpd11 {U G : Nat → Prop} {w0 w w' : World} {c0 c1 c2 c3 c4 c5 c6 c7 c8 c9 c10 : Ch} {L N : List Ch} (H : SH U G w0 w (c0 :: c1 :: c2 :: c3 :: c4 :: c5 :: c6 :: c7 :: c8 :: c9 :: c10 :: L)) (ho : AllOwn [c0, c1, c2, c3, c4, c5, c6, c7, c8, c9, c10]) (K : SH (foot [c0, c1, c2, c3, c4, c5, c6, c7, c8, c9, c10]) Non w w' N) : SH U G w0 w' (N ++ L) := SH.packUpd (M := [c0, c1, c2, c3, c4, c5, c6, c7, c8, c9, c10]) H ho K
set_option maxHeartbeats 4000000 in
theorem Do_c {R C p k j : Nat} {F FE : Nat → Prop} (a : Ev) (w : World) (h : WorldA R C p k j F w) (hk : k ≤ 1000) (hj : j ≤ 1000) (hE : EvA FE a w) (hlt : ∀ b, FE b → b < w.heap.size) (hd : ∀ b, FE b → ¬ F b) : Calls Tryz.prog 9 #[.pointer (some ⟨p, 0, none⟩), agg a] w (DoesR R C p (k + 1) j F w) := by
  obtain ⟨⟨cf, vR, vC, pc, pn, vS, en, va, vd, vk, rs, cs, gR, gC, FR, FC, Fk, ms, lost, FN, bs, gS, ga, gd, gk⟩, hok, hA⟩ := h
  have H := SH.obj (G := Any) hA
  replace H := SH.argI H hE EvA.st hlt hd
  have hl0 : 0 ≤ lost := hok.l0
  have hl1 : lost ≤ 20 * j := hok.l1
  have he0 : 0 ≤ en := hok.e0
  have he1 : en ≤ k := hok.e1
  have hkl : (kindsL p).length = 9 := rfl
  dsimp only [WS.L, WS.cells, List.cons_append, List.nil_append] at H
  refine calls_of_CW Tryz.func9 rfl Tryz.ntmps9 (Nat.le_of_ble_eq_true rfl) ?_
  simp only [argE, argFrom, Nat.reduceAdd]
  refine CW.seq fun K1 h1 => zr ?_
  refine s_box H rfl EV rfl ?_
  clear H
  intro b0_0 w0_0 H
  try dsimp only [replC, List.cons_append, List.nil_append, List.append_nil, agg, cellsL, Value.cells, List.toList_toArray, List.set_cons_zero, List.set_cons_succ, spliceL, List.take_succ_cons, List.take_zero, List.drop_succ_cons, List.drop_zero, List.length_cons, List.length_nil, Nat.reduceAdd, Row.cells, Flight.L, Hd.L, Snd.L, Ev.L] at H
  refine zg iA (zn h1 ?_); try clear h1
  refine CW.seq (fun K2 h2 => ?_)
  refine CW.seq fun K3 h3 => zr ?_
  refine zg iM ?_
  refine zg (zk (r_eqlP rfl Tryz.underlying28 rfl rfl)) (zn h3 ?_); try clear h3
  refine CW.condF rfl (by first | rfl | (simp only [zd]; omega) | simp_all) ?_
  refine CW.skip ?_
  refine thenE_norm (h2 _ _ ?_); clear h2; try clear K2
  refine CW.seq fun K4 h4 => zr ?_
  refine zg (zt iM (zt iK (zt (fA 16) (zt iL (zt iP (zt iK (fA 16))))))) ?_
  refine s_store H Tryz.sizeOf3 rfl EV (by first | rfl | assumption | exact Rs.oneC RS | (simp only [List.all_cons, List.all_nil, Bool.and_true, Bool.and_eq_true, Row.cells, Flight.L, Hd.L, Snd.L, Ev.L]; (repeat' constructor) <;> first | rfl | assumption | exact Rs.oneC RS)) AT (by first | (simp; done) | decide | omega) ?_
  clear H
  intro w3_7 H
  try dsimp only [replC, List.cons_append, List.nil_append, List.append_nil, agg, cellsL, Value.cells, List.toList_toArray, List.set_cons_zero, List.set_cons_succ, spliceL, List.take_succ_cons, List.take_zero, List.drop_succ_cons, List.drop_zero, List.length_cons, List.length_nil, Nat.reduceAdd, Row.cells, Flight.L, Hd.L, Snd.L, Ev.L] at H
  refine LW.nil ?_
  refine thenE_norm ?_
  refine cut (K := K4) [0, 3] (fun σ => ?_)
  refine zg zm ?_
  refine h4 _ _ ?_; clear h4; try clear K4
  refine CW.seq (fun K5 h5 => ?_)
  refine CW.seq (fun K6 h6 => ?_)
  refine CW.drawH [] H (List.Sublist.refl _) (by kernel_rfl) rfl ?_
  clear H
  intro w4d H
  refine DL.take (i := 0) [] rfl (by kernel_rfl) (by kernel_rfl) (by kernel_rfl) (by kernel_rfl) rfl rfl (fun u H => x_fieldAddrO Tryz.underlying35 rfl Tryz.sizeOf3 (by decide) (show _ = 0 from rfl) rfl) H ?_
  refine DL.take (i := 1) [] rfl (by kernel_rfl) (by kernel_rfl) (by kernel_rfl) (by kernel_rfl) rfl rfl (fun u H => x_load Tryz.isAgg3 rfl (by first | exact SH.cellB H AT (by rfl) | assumption)) H ?_
  refine DL.take (i := 2) [] rfl (by kernel_rfl) (by kernel_rfl) (by kernel_rfl) (by kernel_rfl) rfl rfl (fun u H => x_lss rfl rfl) H ?_
  refine DL.take (i := 3) [] rfl (by kernel_rfl) (by kernel_rfl) (by kernel_rfl) (by kernel_rfl) rfl rfl (fun u H => x_move ) H ?_
  refine DL.splitB (t := 17) rfl (fun hg4_3 => ?_) (fun hg4_3 => ?_)
  · have hg4_3P := hg4_3
    try simp only [zb] at hg4_3P
    refine DL.skip (i := 4) [] rfl (by kernel_rfl) (by kernel_rfl) (by kernel_rfl) (by kernel_rfl) rfl (skipE rfl rfl hg4_3) H ?_
    refine DL.skip (i := 5) [] rfl (by kernel_rfl) (by kernel_rfl) (by kernel_rfl) (by kernel_rfl) rfl (skipE rfl rfl hg4_3) H ?_
    refine DL.skip (i := 6) [] rfl (by kernel_rfl) (by kernel_rfl) (by kernel_rfl) (by kernel_rfl) rfl (skipE rfl rfl hg4_3) H ?_
    refine DL.skip (i := 7) [] rfl (by kernel_rfl) (by kernel_rfl) (by kernel_rfl) (by kernel_rfl) rfl (skipE rfl rfl hg4_3) H ?_
    refine DL.skip (i := 8) [] rfl (by kernel_rfl) (by kernel_rfl) (by kernel_rfl) (by kernel_rfl) rfl (skipE rfl rfl hg4_3) H ?_
    refine DL.skip (i := 9) [] rfl (by kernel_rfl) (by kernel_rfl) (by kernel_rfl) (by kernel_rfl) rfl (skipE rfl rfl hg4_3) H ?_
    refine DL.skip (i := 10) [] rfl (by kernel_rfl) (by kernel_rfl) (by kernel_rfl) (by kernel_rfl) rfl (skipE rfl rfl hg4_3) H ?_
    refine DL.skip (i := 11) [] rfl (by kernel_rfl) (by kernel_rfl) (by kernel_rfl) (by kernel_rfl) rfl (skipE rfl rfl hg4_3) H ?_
    refine DL.take (i := 12) [] rfl (by kernel_rfl) (by kernel_rfl) (by kernel_rfl) (by kernel_rfl) rfl rfl (fun u H => x_pickT rfl hg4_3) H ?_
    refine DL.done (by kernel_rfl) ?_
    refine thenE_norm ?_
    refine cut (K := K6) [0, 3, 26] (fun σ => ?_)
    refine zg zm ?_
    refine h6 _ _ ?_; clear h6; try clear K6
    refine CW.condT rfl (by first | rfl | (simp only [zd]; omega) | simp_all) ?_
    refine CW.seq fun K7 h7 => zr ?_
    refine zg iA (zn h7 ?_); try clear h7
    refine CW.ret (tR (ret1 Tryz.results9 EV ?_))
    obtain ⟨F', K⟩ := WorldA.mk (k := k + 1) (j := j + 1) ⟨cf, vR, vC, pc, pn, vS, en + 1, va, vd, vk, rs, cs, gR, gC, FR, FC, Fk, ms, lost, FN, bs, gS, ga, gd, gk⟩ ⟨hok.1, hok.2, hok.3, hok.4, hok.5, hok.6, hok.7, hok.8, hok.9, by show 0 ≤ en + 1; omega, by show en + 1 ≤ _; omega, hok.12, by show lost ≤ _; omega⟩ (SH.sel H [0, 1, 2, 3, 4, 5, 6, 7, 8, 9, 10] (by decide) rfl)
    exact ⟨_, _, rfl, K⟩
  · have hg4_3P := hg4_3
    try simp only [zb] at hg4_3P
    refine DL.take (i := 4) [] rfl (by kernel_rfl) (by kernel_rfl) (by kernel_rfl) (by kernel_rfl) rfl (wantE rfl rfl hg4_3) (fun u H => x_fieldAddrO Tryz.underlying35 rfl Tryz.sizeOf3 (by decide) (show _ = 0 from rfl) rfl) H ?_
    refine DL.take (i := 5) [] rfl (by kernel_rfl) (by kernel_rfl) (by kernel_rfl) (by kernel_rfl) rfl (wantE rfl rfl hg4_3) (fun u H => x_load Tryz.isAgg3 rfl (by first | exact SH.cellB H AT (by rfl) | assumption)) H ?_
    refine DL.take (i := 6) [] rfl (by kernel_rfl) (by kernel_rfl) (by kernel_rfl) (by kernel_rfl) rfl (wantE rfl rfl hg4_3) (fun u H => x_move ) H ?_
    refine DL.take (i := 7) [] rfl (by kernel_rfl) (by kernel_rfl) (by kernel_rfl) (by kernel_rfl) rfl (wantE rfl rfl hg4_3) (fun u H => x_nilCheck rfl) H ?_
    refine DL.take (i := 8) [] rfl (by kernel_rfl) (by kernel_rfl) (by kernel_rfl) (by kernel_rfl) rfl (wantE rfl rfl hg4_3) (fun u H => x_fieldAddrO Tryz.underlying104 rfl Tryz.sizeOf102 (by decide) (show _ = 19 from rfl) rfl) H ?_
    refine DL.take (i := 9) [] rfl (by kernel_rfl) (by kernel_rfl) (by kernel_rfl) (by kernel_rfl) rfl (wantE rfl rfl hg4_3) (fun u H => x_load Tryz.isAgg102 rfl (by first | exact SH.cellB H AT (by rfl) | exact SH.cellI H AT (by rfl) | assumption)) H ?_
    refine DL.take (i := 10) [] rfl (by kernel_rfl) (by kernel_rfl) (by kernel_rfl) (by kernel_rfl) rfl (wantE rfl rfl hg4_3) (fun u H => x_lenV Tryz.underlying102 EV RS) H ?_
    refine DL.take (i := 11) [] rfl (by kernel_rfl) (by kernel_rfl) (by kernel_rfl) (by kernel_rfl) rfl (wantE rfl rfl hg4_3) (fun u H => x_gtr rfl rfl) H ?_
    refine DL.take (i := 12) [] rfl (by kernel_rfl) (by kernel_rfl) (by kernel_rfl) (by kernel_rfl) rfl rfl (fun u H => x_pickF rfl hg4_3) H ?_
    refine DL.done (by kernel_rfl) ?_
    refine thenE_norm ?_
    refine cut (K := K6) [0, 3, 26] (fun σ => ?_)
    refine zg zm ?_
    refine h6 _ _ ?_; clear h6; try clear K6
    refine CW.cond rfl (fun hc2 => ?_) (fun hc2 => ?_)
    · try simp only [zb] at hc2
      refine CW.seq fun K8 h8 => zr ?_
      refine zg iA (zn h8 ?_); try clear h8
      refine CW.ret (tR (ret1 Tryz.results9 EV ?_))
      obtain ⟨F', K⟩ := WorldA.mk (k := k + 1) (j := j + 1) ⟨cf, vR, vC, pc, pn, vS, en + 1, va, vd, vk, rs, cs, gR, gC, FR, FC, Fk, ms, lost, FN, bs, gS, ga, gd, gk⟩ ⟨hok.1, hok.2, hok.3, hok.4, hok.5, hok.6, hok.7, hok.8, hok.9, by show 0 ≤ en + 1; omega, by show en + 1 ≤ _; omega, hok.12, by show lost ≤ _; omega⟩ (SH.sel H [0, 1, 2, 3, 4, 5, 6, 7, 8, 9, 10] (by decide) rfl)
      exact ⟨_, _, rfl, K⟩
    · try simp only [zb] at hc2
      refine CW.skip ?_
      refine thenE_norm (h5 _ _ ?_); clear h5; try clear K5
      refine CW.seq (fun K9 h9 => ?_)
      obtain ⟨fid, hfk, hcf, hcall⟩ := kind_c (p := p) (FE := FE) a (by omega) (by omega) hE.1
      have hok' : WS.Ok ⟨cf, vR, vC, pc, pn, vS, en + 1, va, vd, vk, rs, cs, gR, gC, FR, FC, Fk, ms, lost, FN, bs, gS, ga, gd, gk⟩ R C (k + 1) j := ⟨hok.1, hok.2, hok.3, hok.4, hok.5, hok.6, hok.7, hok.8, hok.9, by show 0 ≤ en + 1; omega, by show en + 1 ≤ _; omega, hok.12, hl1⟩
      refine CW.drawH [10, 11] H (List.Sublist.refl _) (by kernel_rfl) rfl ?_
      clear H
      intro w6d H
      refine DL.take (i := 0) [0, 1, 2, 3, 7, 8, 10, 11] rfl (by kernel_rfl) (by kernel_rfl) (by kernel_rfl) (by kernel_rfl) rfl rfl (fun u H => x_move ) H ?_
      refine DL.take (i := 1) [1, 2, 3, 7, 8, 10, 11] rfl (by kernel_rfl) (by kernel_rfl) (by kernel_rfl) (by kernel_rfl) rfl rfl (fun u H => x_nilCheck rfl) H ?_
      refine DL.take (i := 2) [2, 3, 7, 8, 10, 11] rfl (by kernel_rfl) (by kernel_rfl) (by kernel_rfl) (by kernel_rfl) rfl rfl (fun u H => x_fieldAddrO Tryz.underlying104 rfl Tryz.sizeOf102 (by decide) (show _ = 19 from rfl) rfl) H ?_
      refine DL.take (i := 3) [3, 7, 8, 10, 11] rfl (by kernel_rfl) (by kernel_rfl) (by kernel_rfl) (by kernel_rfl) rfl rfl (fun u H => x_load Tryz.isAgg102 rfl (by first | exact SH.cellB H AT (by rfl) | exact SH.cellI H AT (by rfl) | assumption)) H ?_
      refine DL.take (i := 4) [4, 5, 6, 7, 8, 10, 11] rfl (by kernel_rfl) (by kernel_rfl) (by kernel_rfl) (by kernel_rfl) rfl rfl (fun u H => x_fieldAddrO Tryz.underlying35 rfl Tryz.sizeOf3 (by decide) (show _ = 0 from rfl) rfl) H ?_
      refine DL.take (i := 5) [5, 6, 7, 8, 10, 11] rfl (by kernel_rfl) (by kernel_rfl) (by kernel_rfl) (by kernel_rfl) rfl rfl (fun u H => x_load Tryz.isAgg3 rfl (by first | exact SH.cellB H AT (by rfl) | assumption)) H ?_
      refine DL.take (i := 6) [6, 7, 8, 10, 11] rfl (by kernel_rfl) (by kernel_rfl) (by kernel_rfl) (by kernel_rfl) rfl rfl (fun u H => x_sub rfl rfl (wr_i64 (by omega) (by omega))) H ?_
      refine DL.take (i := 7) [7, 8, 10, 11] rfl (by kernel_rfl) (by kernel_rfl) (by kernel_rfl) (by kernel_rfl) rfl rfl (fun u H => x_indexAddrV Tryz.underlying102 EV rfl RS (by exact Tryz.sizeOf32) (by omega) (by omega)) H ?_
      refine DL.take (i := 8) [8, 10, 11] rfl (by kernel_rfl) (by kernel_rfl) (by kernel_rfl) (by kernel_rfl) rfl rfl (fun u H => x_load Tryz.isAgg32 rfl (by first | exact Rs.cell RS (by assumption) (by rfl) | exact Rs.cell0 RS (by assumption) (by rfl) | assumption)) H ?_
      refine DL.take (i := 9) [9, 10, 11] rfl (by kernel_rfl) (by kernel_rfl) (by kernel_rfl) (by kernel_rfl) rfl rfl (fun u H => x_loadA Tryz.isAgg35 Tryz.sizeOf35 rfl (by first | exact SH.cells H AT) (by rfl)) H ?_
      have hW : WorldA R C p (k + 1) j (foot (WS.L ⟨cf, vR, vC, pc, pn, vS, en + 1, va, vd, vk, rs, cs, gR, gC, FR, FC, Fk, ms, lost, FN, bs, gS, ga, gd, gk⟩ R C p)) w6d := ⟨_, hok', SH.objA (SH.sel H [0, 1, 2, 3, 4, 5, 6, 7, 8, 9, 10] (by decide) rfl)⟩
      have hfo : ∀ b, FE b → ¬ foot (WS.L ⟨cf, vR, vC, pc, pn, vS, en + 1, va, vd, vk, rs, cs, gR, gC, FR, FC, Fk, ms, lost, FN, bs, gS, ga, gd, gk⟩ R C p) b := SH.footI (SH.sel H [11, 0, 1, 2, 3, 4, 5, 6, 7, 8, 9, 10] (by decide) rfl) ⟨trivial, trivial, trivial, trivial, trivial, trivial, trivial, trivial, trivial, trivial, trivial, trivial⟩
      have hC := hcall R C (k + 1) j _ w6d hW hj (SH.propI H (i := 11) rfl) hfo
      refine DL.one (i := 10) (by kernel_rfl) rfl rfl ?_
      refine r_callV rfl rfl hcf HS rfl (hC) ?_
      rintro _ w6_10 ⟨x6_10, F6_10, rfl, K⟩
      refine ⟨_, rfl, ?_⟩
      replace H := SH.packUpd11 H ⟨trivial, trivial, trivial, trivial, trivial, trivial, trivial, trivial, trivial, trivial, trivial, trivial⟩ K
      clear K
      try dsimp only [replC, List.cons_append, List.nil_append, List.append_nil] at H
      refine LW.nil (thenE_norm ⟨fun h => Bool.noConfusion (show true = false from h), ?_⟩)
      refine DL.takeU (i := 11) rfl (by kernel_rfl) (by kernel_rfl) (by kernel_rfl) rfl rfl rfl (fun u => x_assign ) ?_
      refine DL.done (by kernel_rfl) ?_
      refine thenE_norm ?_
      refine cut (K := K9) [4] (fun σ => ?_)
      refine zg zm ?_
      refine h9 _ _ ?_; clear h9; try clear K9
      refine CW.ret (ret1 Tryz.results9 EV ?_)
      exact ⟨_, _, rfl, SH.give (SH.sel H [0] (by decide) rfl) (List.Sublist.refl _) ⟨trivial, trivial⟩⟩
set_option maxHeartbeats 1000000 in
theorem does_c {p : Nat} (w : World) : Calls Tryz.prog 41 #[.pointer (some ⟨p, 0, none⟩)] w fun e w' => ∃ v g, e = .returned v ∧ SH Non Non w w' [.O 32 v (kindsL p) g] := by
  have H := SH.start (U := Non) (G := Any) w
  refine calls_of_CW Tryz.func41 rfl Tryz.ntmps41 (Nat.le_of_ble_eq_true rfl) ?_
  simp only [argE, argFrom, Nat.reduceAdd]
  refine CW.seq fun K1 h1 => zr ?_
  refine zg iA (zn h1 ?_); try clear h1
  refine CW.seq fun K2 h2 => zr ?_
  refine zg iM ?_
  refine zg (zt (zk (r_makeFunc rfl HS HS)) iM) ?_
  refine zg (zt (zk (r_makeFunc rfl HS HS)) iM) ?_
  refine zg (zt (zk (r_makeFunc rfl HS HS)) iM) ?_
  refine zg (zt (zk (r_makeFunc rfl HS HS)) iM) ?_
  refine zg (zt (zk (r_makeFunc rfl HS HS)) iM) ?_
  refine zg (zt (zk (r_makeFunc rfl HS HS)) iM) ?_
  refine zg (zt (zk (r_makeFunc rfl HS HS)) iM) ?_
  refine zg (zt (zk (r_makeFunc rfl HS HS)) iM) ?_
  refine zg (zk (r_makeFunc rfl HS HS)) ?_
  refine r_buildSlice rfl Tryz.underlying102 Tryz.sizeOf32 Tryz.zeroValue32 rfl rfl rfl BV ?_
  intro b1_18 w1_18 hb1_18 hs1_18 hE1_18 hB1_18
  replace H := SH.call H (SH.fromB hE1_18 hb1_18 hs1_18 hB1_18)
  clear hb1_18 hs1_18 hE1_18 hB1_18
  try dsimp only [replC, List.cons_append, List.nil_append, List.append_nil, agg, cellsL, Value.cells, List.toList_toArray, List.set_cons_zero, List.set_cons_succ, spliceL, List.take_succ_cons, List.take_zero, List.drop_succ_cons, List.drop_zero, List.length_cons, List.length_nil, Nat.reduceAdd, Row.cells, Flight.L, Hd.L, Snd.L, Ev.L] at H
  replace H := SH.row (b := b1_18) (xs := ([⟨.func (.func 94) #[.pointer (some ⟨p, 0, none⟩)] #[]⟩, ⟨.func (.func 95) #[.pointer (some ⟨p, 0, none⟩)] #[]⟩, ⟨.func (.func 96) #[.pointer (some ⟨p, 0, none⟩)] #[]⟩, ⟨.func (.func 97) #[.pointer (some ⟨p, 0, none⟩)] #[]⟩, ⟨.func (.func 98) #[.pointer (some ⟨p, 0, none⟩)] #[]⟩, ⟨.func (.func 99) #[.pointer (some ⟨p, 0, none⟩)] #[]⟩, ⟨.func (.func 100) #[.pointer (some ⟨p, 0, none⟩)] #[]⟩, ⟨.func (.func 101) #[.pointer (some ⟨p, 0, none⟩)] #[]⟩, ⟨.func (.func 102) #[.pointer (some ⟨p, 0, none⟩)] #[]⟩] : List Sv)) (n := 9) (cap := 9) H AT (by rfl) (by intro x hx; first | rfl | (simp at hx; done) | (simp only [List.mem_cons, List.not_mem_nil, or_false] at hx; rcases hx with rfl | rfl | rfl | rfl | rfl | rfl | rfl | rfl | rfl <;> first | rfl | exact (by first | rfl | assumption | exact Rs.oneC RS | (simp only [List.all_cons, List.all_nil, Bool.and_true, Bool.and_eq_true, Row.cells, Flight.L, Hd.L, Snd.L, Ev.L]; (repeat' constructor) <;> first | rfl | assumption | exact Rs.oneC RS)))) (by rfl) rfl (by decide)
  try dsimp only [replC, List.cons_append, List.nil_append, List.append_nil, agg, cellsL, Value.cells, List.toList_toArray, List.set_cons_zero, List.set_cons_succ, spliceL, List.take_succ_cons, List.take_zero, List.drop_succ_cons, List.drop_zero, List.length_cons, List.length_nil, Nat.reduceAdd, Row.cells, Flight.L, Hd.L, Snd.L, Ev.L] at H
  refine zg iA (zc [2] h2 fun σ => zg zm ?_); try clear h2
  refine CW.ret (ret1 Tryz.results41 EV ?_)
  exact ⟨_, _, rfl, SH.give (SH.sel H [0] (by decide) rfl) (List.Sublist.refl _) ⟨trivial, trivial⟩⟩
end Go.Proofs.YtgmmbdmdimkfjaaGreat
