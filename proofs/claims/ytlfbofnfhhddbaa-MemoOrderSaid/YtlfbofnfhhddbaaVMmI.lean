/-
  The walks of layer 9's laws, the second part: MemoSame.
-/
import Derived.Test.YtlfbofnfhhddbaaVMmH
namespace Go.Proofs.Ytlfbofnfhhddbaa
set_option linter.unusedSimpArgs false
set_option linter.unusedVariables false
set_option maxRecDepth 20000
open Go.V Go.RowKit Go.ChangeShapes Go.WideShapes

structure Act9 where
  client : UInt8
  seq : UInt8
  ns : Value
def Act9.L (a : Act9) : List Value := [u8v a.client, u8v a.seq, a.ns]
instance : Row Act9 := ⟨3, Act9.L, ⟨0, 0, .slice none 0 0⟩, fun _ => rfl, rfl⟩
def Act9.Good (w : World) (a : Act9) : Prop := True ∧ True ∧ (∃ xs : List UInt8, Rs (Old w) w a.ns xs ∧ ∀ y ∈ xs, True)
theorem Act9.opens : Opens Try.prog (α := Act9) 99 Act9.Good := fun H enc w base spare held fuel cs x hl h => by
  obtain ⟨u0, u1, u2, rfl⟩ := list3 hl
  obtain ⟨m0, hf0⟩ := open_fields Try.underlying99 h
  obtain ⟨y0, t0⟩ := hf0 0 _ 1 rfl (by kernel_rfl)
  obtain ⟨a0, e0, -, w0⟩ := DataW.trod_int Try.underlying5 t0
  obtain ⟨b0, hb0⟩ := u8_wf w0
  rw [hb0] at e0
  obtain rfl : u0 = _ := by simpa using e0
  obtain ⟨y1, t1⟩ := hf0 1 _ 1 rfl (by kernel_rfl)
  obtain ⟨a1, e1, -, w1⟩ := DataW.trod_int Try.underlying5 t1
  obtain ⟨b1, hb1⟩ := u8_wf w1
  rw [hb1] at e1
  obtain rfl : u1 = _ := by simpa using e1
  obtain ⟨y2, t2⟩ := hf0 2 _ 1 rfl (by kernel_rfl)
  obtain ⟨a2, xs2, e2, r2, g2⟩ := Opens.rows (β := UInt8) Try.underlying43 (opens_u8 Try.underlying5) (by kernel_rfl) t2
  obtain rfl : u2 = _ := by simpa using e2
  have o2 := r2.oneC
  exact ⟨⟨b0, b1, u2⟩, rfl, (by first | rfl | (simp only [Row.cells, Act9.L]; repeat (first | rfl | refine Bool.and_eq_true_iff.2 ⟨(by first | rfl | assumption), ?_⟩))), ⟨trivial, trivial, ⟨xs2, r2, g2⟩⟩⟩
/-- No memos, and nothing that they hold. -/
theorem addMs {U G : Nat → Prop} {w0 w : World} {L : List Ch} (H : SH U G w0 w L) : SH U G w0 w (L ++ [.P Non (MmsA Non [] [])]) :=
  H.call ⟨Ext.refl _ _, Val.one ⟨trivial, mms_st, fun b h => h.elim, fun _ b h => h.elim, fun b h => h.elim⟩⟩
set_option maxHeartbeats 16000000 in
theorem MemoSame_c {F F2 : Nat → Prop} {v nv : Value} {acts : List Act9} {ns : List UInt8} (c s : Int) (w : World) (hv : Rs F w v acts) (hn : Rs F2 w nv ns) (hg : ∀ a ∈ acts, ∃ xs : List UInt8, Rs (Old w) w a.ns xs) (h0 : 0 ≤ c) (h1 : c < 256) (k0 : 0 ≤ s) (k1 : s < 256) :
    Calls Try.prog 17 #[v, .int .u8 c, .int .u8 s, nv] w fun e w' => e = .returned (.bool true) ∧ Ext0 w w' := by
  have H := ((SH.start w).arg hv).arg hn
  have h63 := hv.len63
  refine calls_of_CW Try.func17 rfl Try.ntmps17 (Nat.le_of_ble_eq_true rfl) ?_
  simp only [argE, argFrom, Nat.reduceAdd]
  refine CW.seq (fun K1 h1 => ?_)
  refine CW.region ?_
  refine r_assign rfl ?_
  refine LW.nil ?_
  refine thenE_norm (h1 _ _ ?_); clear h1; try clear K1
  refine CW.seq (fun K2 h2 => ?_)
  refine CW.region ?_
  refine r_assign rfl ?_
  refine LW.nil ?_
  refine thenE_norm (h2 _ _ ?_); clear h2; try clear K2
  refine CW.seq (fun K3 h3 => ?_)
  refine CW.seq (fun K4 h4 => ?_)
  refine CW.region ?_
  refine r_assign rfl ?_
  refine LW.nil ?_
  refine thenE_norm (h4 _ _ ?_); clear h4; try clear K4
  refine CW.block ?_
  refine CW.loopR [0, 1, 2, 3] [9, 10] (fun m vs w' => ∃ (i : Nat) (u : Value) (raws : List Mem) (ms : List Mm) (g : Option Nat) (FP : Nat → Prop), vs = [u, .int .i64 i] ∧ i ≤ acts.length ∧ m = acts.length - i ∧ i ≤ 20 ∧ ms.length ≤ i ∧ rightN ms = true ∧ SH Non Any w w' [.R (Old w) v acts, .R (Old w) nv ns, .O 80 u raws g, .P FP (MmsA FP raws ms)]) (acts.length) ?_ ?_
  · exact ⟨0, .slice none 0 0, [], [], none, _, rfl, by omega, by omega, by omega, by simp, rfl, addMs (H.addO (α := Mem) 80)⟩
  try clear H
  rintro n1 vs1 wL1 σ ⟨i, u, raws, ms, g, FP, rfl, hi, rfl, hi20, hml, hr, H⟩
  simp only [setL, keepE, upd_get, ev, Nat.reduceEqDiff, ↓reduceIte]
  have l1 := All2.len (SH.prop H (i := 3) rfl)
  refine CW.seq (fun K5 h5 => ?_)
  refine CW.seq (fun K6 h6 => ?_)
  refine CW.region ?_
  refine r_move rfl ?_
  refine r_move rfl ?_
  first
    | refine r_lenV rfl Try.underlying96 (by simp only [upd_get, ev, Nat.reduceEqDiff, ↓reduceIte] <;> rfl) (by first | assumption | exact SH.rsR H (by (repeat first | exact At.here | apply At.there); done) | exact SH.rsO H (by (repeat first | exact At.here | apply At.there); done) | exact (Rs.nil : Rs Non _ _ _)) ?_
    | refine r_len rfl Try.underlying96 rfl ?_
  refine r_lss rfl rfl rfl ?_
  refine r_move rfl ?_
  refine' LW.grpAnd (n := 3) (ts := [0, 1, 2, 3, 9, 10]) (d := 24) (tj := 21) rfl (fun hg3_5 => ?_) (fun hg3_5 => ?_) (fun σ => ?_)
  rotate_left
  · simp only [List.take_succ_cons, List.take_zero]
    have hg3_5P := hg3_5
    try simp only [decide_eq_true_eq, decide_eq_false_iff_not, Bool.and_eq_true, Bool.or_eq_true, Bool.and_eq_false_iff, Bool.or_eq_false_iff, Bool.not_eq_true', Bool.not_eq_false', beq_iff_eq, bne_iff_ne] at hg3_5P
    refine LW.want rfl rfl hg3_5 ?_
    refine r_move rfl ?_
    refine LW.want rfl rfl hg3_5 ?_
    refine r_lss rfl rfl rfl ?_
    refine r_pickT rfl rfl hg3_5 ?_
    refine LW.nil (thenE_norm ⟨rfl, rfl, rfl⟩)
  · simp only [List.take_succ_cons, List.take_zero]
    refine LW.skip rfl (fun _ e => by cases e; decide) rfl hg3_5 ?_
    refine LW.skip rfl (fun _ e => by cases e; decide) rfl hg3_5 ?_
    refine r_pickF rfl rfl hg3_5 ?_
    refine LW.nil (thenE_norm ⟨rfl, rfl, rfl⟩)
  simp only [setL, keepE, upd_get, ev, Nat.reduceEqDiff, ↓reduceIte]; simp only [List.drop_succ_cons, List.drop_zero]
  refine LW.nil ?_
  refine thenE_norm (h6 _ _ ?_); clear h6; try clear K6
  refine CW.cond rfl (fun hc1 => ?_) (fun hc1 => ?_)
  · try simp only [decide_eq_true_eq, decide_eq_false_iff_not, Bool.and_eq_true, Bool.or_eq_true, Bool.and_eq_false_iff, Bool.or_eq_false_iff, Bool.not_eq_true', Bool.not_eq_false', beq_iff_eq, bne_iff_ne, ne_eq, Decidable.not_not] at hc1
    refine CW.skip ?_
    refine thenE_norm (h5 _ _ ?_); clear h5; try clear K5
    refine CW.seq (fun K7 h7 => ?_)
    refine CW.block ?_
    obtain ⟨x, hx⟩ := get_of_lt (show i < acts.length by omega)
    obtain ⟨xs, hxs⟩ := hg x (List.mem_of_getElem? hx)
    obtain ⟨x1, x2, x3⟩ := x
    dsimp only at hxs
    have hb1 := x1.toNat_lt
    have hb2 := x2.toNat_lt
    refine CW.drawP [0] [] H (by dsimp only [pickC, nthC] <;> rfl) (by repeat first | exact List.Sublist.refl _ | exact List.nil_sublist _ | apply List.Sublist.cons_cons | apply List.Sublist.cons) (by kernel_rfl) rfl ?_
    clear H
    intro w5d H
    refine DL.take (i := 0) [] rfl (by kernel_rfl) (by kernel_rfl) (by kernel_rfl) (by kernel_rfl) rfl rfl (fun u H => x_move ) (SH.sub H (by repeat first | exact List.Sublist.refl _ | exact List.nil_sublist _ | apply List.Sublist.cons_cons | apply List.Sublist.cons)) ?_
    refine DL.take (i := 1) [] rfl (by kernel_rfl) (by kernel_rfl) (by kernel_rfl) (by kernel_rfl) rfl rfl (fun u H => x_move ) (SH.sub H (by repeat first | exact List.Sublist.refl _ | exact List.nil_sublist _ | apply List.Sublist.cons_cons | apply List.Sublist.cons)) ?_
    refine DL.take (i := 2) [] rfl (by kernel_rfl) (by kernel_rfl) (by kernel_rfl) (by kernel_rfl) rfl rfl (fun u H => x_move ) (SH.sub H (by repeat first | exact List.Sublist.refl _ | exact List.nil_sublist _ | apply List.Sublist.cons_cons | apply List.Sublist.cons)) ?_
    refine DL.take (i := 3) [] rfl (by kernel_rfl) (by kernel_rfl) (by kernel_rfl) (by kernel_rfl) rfl rfl (fun u H => x_indexAddrV Try.underlying96 (by simp only [upd_get, ev, Nat.reduceEqDiff, ↓reduceIte] <;> rfl) rfl (by first | assumption | exact SH.rsR H (by (repeat first | exact At.here | apply At.there); done) | exact SH.rsO H (by (repeat first | exact At.here | apply At.there); done) | exact (Rs.nil : Rs Non _ _ _)) (by exact Try.sizeOf99) (by omega) (by omega)) (SH.sub H (by repeat first | exact List.Sublist.refl _ | exact List.nil_sublist _ | apply List.Sublist.cons_cons | apply List.Sublist.cons)) ?_
    refine DL.take (i := 4) [] rfl (by kernel_rfl) (by kernel_rfl) (by kernel_rfl) (by kernel_rfl) rfl rfl (fun u H => x_fieldAddrO Try.underlying99 rfl Try.sizeOf5 (by decide) (show _ + 0 = _ from rfl) rfl) (SH.sub H (by repeat first | exact List.Sublist.refl _ | exact List.nil_sublist _ | apply List.Sublist.cons_cons | apply List.Sublist.cons)) ?_
    refine DL.take (i := 5) [] rfl (by kernel_rfl) (by kernel_rfl) (by kernel_rfl) (by kernel_rfl) rfl rfl (fun u H => x_load Try.isAgg5 rfl (by first | exact Rs.cell (by first | assumption | exact SH.rsR H (by (repeat first | exact At.here | apply At.there); done) | exact SH.rsO H (by (repeat first | exact At.here | apply At.there); done) | exact (Rs.nil : Rs Non _ _ _)) (by assumption) (by rfl) | exact Rs.cell0 (by first | assumption | exact SH.rsR H (by (repeat first | exact At.here | apply At.there); done) | exact SH.rsO H (by (repeat first | exact At.here | apply At.there); done) | exact (Rs.nil : Rs Non _ _ _)) (by assumption) (by rfl) | assumption)) (SH.sub H (by repeat first | exact List.Sublist.refl _ | exact List.nil_sublist _ | apply List.Sublist.cons_cons | apply List.Sublist.cons)) ?_
    refine DL.take (i := 6) [] rfl (by kernel_rfl) (by kernel_rfl) (by kernel_rfl) (by kernel_rfl) rfl rfl (fun u H => x_move ) (SH.sub H (by repeat first | exact List.Sublist.refl _ | exact List.nil_sublist _ | apply List.Sublist.cons_cons | apply List.Sublist.cons)) ?_
    refine DL.take (i := 7) [] rfl (by kernel_rfl) (by kernel_rfl) (by kernel_rfl) (by kernel_rfl) rfl rfl (fun u H => x_move ) (SH.sub H (by repeat first | exact List.Sublist.refl _ | exact List.nil_sublist _ | apply List.Sublist.cons_cons | apply List.Sublist.cons)) ?_
    refine DL.take (i := 8) [] rfl (by kernel_rfl) (by kernel_rfl) (by kernel_rfl) (by kernel_rfl) rfl rfl (fun u H => x_indexAddrV Try.underlying96 (by simp only [upd_get, ev, Nat.reduceEqDiff, ↓reduceIte] <;> rfl) rfl (by first | assumption | exact SH.rsR H (by (repeat first | exact At.here | apply At.there); done) | exact SH.rsO H (by (repeat first | exact At.here | apply At.there); done) | exact (Rs.nil : Rs Non _ _ _)) (by exact Try.sizeOf99) (by omega) (by omega)) (SH.sub H (by repeat first | exact List.Sublist.refl _ | exact List.nil_sublist _ | apply List.Sublist.cons_cons | apply List.Sublist.cons)) ?_
    refine DL.take (i := 9) [] rfl (by kernel_rfl) (by kernel_rfl) (by kernel_rfl) (by kernel_rfl) rfl rfl (fun u H => x_fieldAddrO Try.underlying99 rfl Try.sizeOf5 (by decide) (show _ + 1 = _ from rfl) rfl) (SH.sub H (by repeat first | exact List.Sublist.refl _ | exact List.nil_sublist _ | apply List.Sublist.cons_cons | apply List.Sublist.cons)) ?_
    refine DL.take (i := 10) [] rfl (by kernel_rfl) (by kernel_rfl) (by kernel_rfl) (by kernel_rfl) rfl rfl (fun u H => x_load Try.isAgg5 rfl (by first | exact Rs.cell (o := 1) (by first | assumption | exact SH.rsR H (by (repeat first | exact At.here | apply At.there); done) | exact SH.rsO H (by (repeat first | exact At.here | apply At.there); done) | exact (Rs.nil : Rs Non _ _ _)) (by assumption) (by rfl) | exact Rs.cell0 (by first | assumption | exact SH.rsR H (by (repeat first | exact At.here | apply At.there); done) | exact SH.rsO H (by (repeat first | exact At.here | apply At.there); done) | exact (Rs.nil : Rs Non _ _ _)) (by assumption) (by rfl) | assumption)) (SH.sub H (by repeat first | exact List.Sublist.refl _ | exact List.nil_sublist _ | apply List.Sublist.cons_cons | apply List.Sublist.cons)) ?_
    refine DL.take (i := 11) [] rfl (by kernel_rfl) (by kernel_rfl) (by kernel_rfl) (by kernel_rfl) rfl rfl (fun u H => x_move ) (SH.sub H (by repeat first | exact List.Sublist.refl _ | exact List.nil_sublist _ | apply List.Sublist.cons_cons | apply List.Sublist.cons)) ?_
    refine DL.take (i := 12) [] rfl (by kernel_rfl) (by kernel_rfl) (by kernel_rfl) (by kernel_rfl) rfl rfl (fun u H => x_move ) (SH.sub H (by repeat first | exact List.Sublist.refl _ | exact List.nil_sublist _ | apply List.Sublist.cons_cons | apply List.Sublist.cons)) ?_
    refine DL.take (i := 13) [] rfl (by kernel_rfl) (by kernel_rfl) (by kernel_rfl) (by kernel_rfl) rfl rfl (fun u H => x_indexAddrV Try.underlying96 (by simp only [upd_get, ev, Nat.reduceEqDiff, ↓reduceIte] <;> rfl) rfl (by first | assumption | exact SH.rsR H (by (repeat first | exact At.here | apply At.there); done) | exact SH.rsO H (by (repeat first | exact At.here | apply At.there); done) | exact (Rs.nil : Rs Non _ _ _)) (by exact Try.sizeOf99) (by omega) (by omega)) (SH.sub H (by repeat first | exact List.Sublist.refl _ | exact List.nil_sublist _ | apply List.Sublist.cons_cons | apply List.Sublist.cons)) ?_
    refine DL.take (i := 14) [] rfl (by kernel_rfl) (by kernel_rfl) (by kernel_rfl) (by kernel_rfl) rfl rfl (fun u H => x_fieldAddrO Try.underlying99 rfl Try.sizeOf43 (by decide) (show _ + 2 = _ from rfl) rfl) (SH.sub H (by repeat first | exact List.Sublist.refl _ | exact List.nil_sublist _ | apply List.Sublist.cons_cons | apply List.Sublist.cons)) ?_
    refine DL.take (i := 15) [] rfl (by kernel_rfl) (by kernel_rfl) (by kernel_rfl) (by kernel_rfl) rfl rfl (fun u H => x_load Try.isAgg43 rfl (by first | exact Rs.cell (o := 2) (by first | assumption | exact SH.rsR H (by (repeat first | exact At.here | apply At.there); done) | exact SH.rsO H (by (repeat first | exact At.here | apply At.there); done) | exact (Rs.nil : Rs Non _ _ _)) (by assumption) (by rfl) | exact Rs.cell0 (by first | assumption | exact SH.rsR H (by (repeat first | exact At.here | apply At.there); done) | exact SH.rsO H (by (repeat first | exact At.here | apply At.there); done) | exact (Rs.nil : Rs Non _ _ _)) (by assumption) (by rfl) | assumption)) (SH.sub H (by repeat first | exact List.Sublist.refl _ | exact List.nil_sublist _ | apply List.Sublist.cons_cons | apply List.Sublist.cons)) ?_
    refine DL.one (i := 16) (by kernel_rfl) rfl rfl ?_
    refine r_call rfl Try.call62 (by simp only [List.map_cons, List.map_nil, List.map_toArray, List.toList_toArray, upd_get, ev, Nat.reduceEqDiff, ↓reduceIte] <;> rfl) (Answer_c x1.toNat x2.toNat _ (hxs.up0 (SH.ext H)) (by omega) (by omega) (by omega) (by omega)) ?_
    rintro _ w5_16 ⟨c5_16, s5_16, a5_16, v5_16, gs5_16, g5_16, rfl, hm5_16, hsm5_16, K⟩
    refine ⟨_, rfl, ?_⟩
    replace H := SH.call H K
    clear K
    try dsimp only [replC, List.cons_append, List.nil_append, List.append_nil] at H
    refine LW.nil (thenE_norm ⟨fun _ => (SH.sub H (by repeat first | exact List.Sublist.refl _ | exact List.nil_sublist _ | apply List.Sublist.cons_cons | apply List.Sublist.cons)), ?_⟩)
    refine DL.one (i := 17) (by kernel_rfl) rfl rfl ?_
    refine r_call rfl Try.call63 (by simp only [List.map_cons, List.map_nil, List.map_toArray, List.toList_toArray, upd_get, ev, Nat.reduceEqDiff, ↓reduceIte] <;> rfl) (Keep_c ⟨_, _, ⟨_, _, _, _⟩⟩ _ (SH.rsO H (i := 2) rfl) (SH.prop H (i := 3) rfl) (SH.rsO H (i := 4) rfl) (by omega) hr hsm5_16) ?_
    rintro _ w5_17 ⟨v5_17, raws5_17, g5_17, F5_17, rfl, K⟩
    refine ⟨_, rfl, ?_⟩
    replace H := SH.call H K
    clear K
    try dsimp only [replC, List.cons_append, List.nil_append, List.append_nil] at H
    refine LW.nil (thenE_norm ⟨fun _ => (SH.sub H (by repeat first | exact List.Sublist.refl _ | exact List.nil_sublist _ | apply List.Sublist.cons_cons | apply List.Sublist.cons)), ?_⟩)
    refine DL.take (i := 18) [] rfl (by kernel_rfl) (by kernel_rfl) (by kernel_rfl) (by kernel_rfl) rfl rfl (fun u H => x_assign ) (SH.sub H (by repeat first | exact List.Sublist.refl _ | exact List.nil_sublist _ | apply List.Sublist.cons_cons | apply List.Sublist.cons)) ?_
    refine DL.done (by kernel_rfl) ?_
    refine blockE_norm ?_
    refine thenE_norm (h7 _ _ ?_); clear h7; try clear K7
    refine CW.region ?_
    refine r_move rfl ?_
    refine r_add rfl rfl rfl (wr_i64 (by omega) (by omega)) ?_
    refine r_assign rfl ?_
    refine LW.nil ?_
    refine thenE_norm ⟨rfl, ?_⟩
    have hml2 := keep_len ms (mmA ⟨(x1.toNat : Int) % 8, 1 + (x2.toNat : Int) % 40, ⟨c5_16, s5_16, a5_16, v5_16⟩⟩ gs5_16)
    exact ⟨acts.length - (i + 1), by omega, i + 1, _, _, _, _, _, rfl, by omega, rfl, by omega, by omega, keep_right _ hr, SH.sel H [0, 1, 5, 6] (by decide) rfl⟩
  · try simp only [decide_eq_true_eq, decide_eq_false_iff_not, Bool.and_eq_true, Bool.or_eq_true, Bool.and_eq_false_iff, Bool.or_eq_false_iff, Bool.not_eq_true', Bool.not_eq_false', beq_iff_eq, bne_iff_ne, ne_eq, Decidable.not_not] at hc1
    refine CW.exit (thenE_exit (thenE_exit (blockE_hit ?_)))
    refine thenE_norm (h3 _ _ ?_); clear h3; try clear K3
    refine CW.seq (fun K8 h8 => ?_)
    refine CW.region ?_
    refine r_buildSlice0 rfl Try.underlying81 Try.sizeOf80 rfl ?_
    intro b6_0 w6_0 hb6_0 hs6_0 hE6_0 hB6_0
    replace H := SH.call H (SH.fromB hE6_0 hb6_0 hs6_0 hB6_0)
    clear hb6_0 hs6_0 hE6_0 hB6_0
    try dsimp only [replC, List.cons_append, List.nil_append, List.append_nil, agg, cellsL, Value.cells, List.toList_toArray, List.set_cons_zero, List.set_cons_succ, spliceL, List.take_succ_cons, List.take_zero, List.drop_succ_cons, List.drop_zero, List.length_cons, List.length_nil, Nat.reduceAdd, Row.cells, Gr.L, Rep.L, Mem.L, Ans.L, Act9.L] at H
    replace H := SH.row (b := b6_0) (xs := ([] : List Mem)) (n := 0) (cap := 0) H (by (repeat first | exact At.here | apply At.there); done) (by simp only [flat, List.flatMap_cons, List.flatMap_nil, cellsL, agg, List.append_nil, List.cons_append, List.nil_append, List.toList_toArray, Row.cells, Gr.L, Rep.L, Mem.L, Ans.L, Act9.L] <;> rfl) (by intro x hx; first | rfl | (simp at hx; done) | (simp only [List.mem_cons, List.not_mem_nil, or_false] at hx; rcases hx with rfl <;> first | rfl | exact (by first | rfl | assumption | exact Rs.oneC (by first | assumption | exact SH.rsR H (by (repeat first | exact At.here | apply At.there); done) | exact SH.rsO H (by (repeat first | exact At.here | apply At.there); done) | exact (Rs.nil : Rs Non _ _ _)) | (simp only [List.all_cons, List.all_nil, Bool.and_true, Bool.and_eq_true, Row.cells, Gr.L, Rep.L, Mem.L, Ans.L, Act9.L]; (repeat' constructor) <;> first | rfl | assumption | exact Rs.oneC (by first | assumption | exact SH.rsR H (by (repeat first | exact At.here | apply At.there); done) | exact SH.rsO H (by (repeat first | exact At.here | apply At.there); done) | exact (Rs.nil : Rs Non _ _ _)))))) (by rfl) rfl (by decide)
    try dsimp only [replC, List.cons_append, List.nil_append, List.append_nil, agg, cellsL, Value.cells, List.toList_toArray, List.set_cons_zero, List.set_cons_succ, spliceL, List.take_succ_cons, List.take_zero, List.drop_succ_cons, List.drop_zero, List.length_cons, List.length_nil, Nat.reduceAdd, Row.cells, Gr.L, Rep.L, Mem.L, Ans.L, Act9.L] at H
    refine r_move rfl ?_
    first
      | refine s_append H rfl Try.underlying81 Try.underlying81 Try.type80 rfl (by simp only [upd_get, ev, Nat.reduceEqDiff, ↓reduceIte] <;> rfl) (by simp only [upd_get, ev, Nat.reduceEqDiff, ↓reduceIte] <;> rfl) (by (repeat first | exact At.here | apply At.there); done) (by first | assumption | exact SH.rsR H (by (repeat first | exact At.here | apply At.there); done) | exact SH.rsO H (by (repeat first | exact At.here | apply At.there); done) | exact (Rs.nil : Rs Non _ _ _)) (by rfl) (by rfl) (by first | omega | (simp only [Try.t80, List.length_append, List.length_cons, List.length_nil, List.length_map, maxLen]; omega) | (simp [Try.t80, maxLen]; omega)) (by first | omega | (simp only [Try.t80, List.length_append, List.length_cons, List.length_nil, List.length_map, maxLen]; omega) | (simp [Try.t80, maxLen]; omega)) ?_
      | refine s_appendNil H rfl Try.underlying81 Try.underlying81 Try.type80 rfl rfl (by simp only [upd_get, ev, Nat.reduceEqDiff, ↓reduceIte] <;> rfl) (by first | assumption | exact SH.rsR H (by (repeat first | exact At.here | apply At.there); done) | exact SH.rsO H (by (repeat first | exact At.here | apply At.there); done) | exact (Rs.nil : Rs Non _ _ _)) (by rfl) (by rfl) (by first | omega | (simp only [Try.t80, List.length_append, List.length_cons, List.length_nil, List.length_map, maxLen]; omega) | (simp [Try.t80, maxLen]; omega)) ?_
    clear H
    intro v6_2 w6_2 g6_2 H hN6_2
    try dsimp only [replC, List.cons_append, List.nil_append, List.append_nil] at H
    refine r_assign rfl ?_
    refine LW.nil ?_
    refine thenE_norm (h8 _ _ ?_); clear h8; try clear K8
    refine CW.seq (fun K9 h9 => ?_)
    refine CW.region ?_
    refine r_move rfl ?_
    refine r_move rfl ?_
    refine r_move rfl ?_
    refine r_call rfl Try.call62 (by simp only [List.map_cons, List.map_nil, List.map_toArray, List.toList_toArray, upd_get, ev, Nat.reduceEqDiff, ↓reduceIte] <;> rfl) (Answer_c c s _ (SH.rsR H (i := 1) rfl) (by omega) (by omega) (by omega) (by omega)) ?_
    rintro _ w7_3 ⟨c7_3, s7_3, a7_3, v7_3, gs7_3, g7_3, rfl, hm7_3, hsm7_3, K⟩
    refine ⟨_, rfl, ?_⟩
    replace H := SH.call H K
    clear K
    try dsimp only [replC, List.cons_append, List.nil_append, List.append_nil] at H
    have hmay := answer_may (c := c) (s := s) (u := v7_3) hm7_3 h0 k0
    refine s_alloc (cs := [.int .i64 0, .int .i64 0, .int .i64 0, .int .i64 0, .int .i64 0, .slice none 0 0]) H rfl Try.zeroValue66 rfl ?_
    clear H
    intro b7_4 w7_4 H
    try dsimp only [replC, List.cons_append, List.nil_append, List.append_nil, agg, cellsL, Value.cells, List.toList_toArray, List.set_cons_zero, List.set_cons_succ, spliceL, List.take_succ_cons, List.take_zero, List.drop_succ_cons, List.drop_zero, List.length_cons, List.length_nil, Nat.reduceAdd, Row.cells, Gr.L, Rep.L, Mem.L, Ans.L, Act9.L] at H
    refine s_storeA H Try.sizeOf66 rfl (by simp only [upd_get, ev, Nat.reduceEqDiff, ↓reduceIte] <;> rfl) (by simp only [cellsL, agg, List.toList_toArray, Row.cells, Gr.L, Rep.L, Mem.L, Ans.L, Act9.L] <;> rfl) (by rfl) (by first | rfl | assumption | exact Rs.oneC (by first | assumption | exact SH.rsR H (by (repeat first | exact At.here | apply At.there); done) | exact SH.rsO H (by (repeat first | exact At.here | apply At.there); done) | exact (Rs.nil : Rs Non _ _ _)) | (simp only [List.all_cons, List.all_nil, Bool.and_true, Bool.and_eq_true, Row.cells, Gr.L, Rep.L, Mem.L, Ans.L, Act9.L]; (repeat' constructor) <;> first | rfl | assumption | exact Rs.oneC (by first | assumption | exact SH.rsR H (by (repeat first | exact At.here | apply At.there); done) | exact SH.rsO H (by (repeat first | exact At.here | apply At.there); done) | exact (Rs.nil : Rs Non _ _ _)))) (by (repeat first | exact At.here | apply At.there); done) (by first | (simp; done) | decide | (show _ ≤ _; decide)) ?_
    clear H
    intro w7_5 H
    try dsimp only [replC, List.cons_append, List.nil_append, List.append_nil, agg, cellsL, Value.cells, List.toList_toArray, List.set_cons_zero, List.set_cons_succ, spliceL, List.take_succ_cons, List.take_zero, List.drop_succ_cons, List.drop_zero, List.length_cons, List.length_nil, Nat.reduceAdd, Row.cells, Gr.L, Rep.L, Mem.L, Ans.L, Act9.L] at H
    refine LW.nil ?_
    refine thenE_norm ?_
    refine cut (K := K9) [9, 11, 12] (fun σ => ?_)
    simp only [setL, keepE, upd_get, ev, Nat.reduceEqDiff, ↓reduceIte]
    refine h9 _ _ ?_; clear h9; try clear K9
    refine CW.seq (fun K10 h10 => ?_)
    refine CW.region ?_
    refine r_move rfl ?_
    refine r_loadA rfl Try.isAgg66 Try.sizeOf66 rfl (by first | exact SH.cells H (by (repeat first | exact At.here | apply At.there); done)) (by rfl) ?_
    refine r_call rfl Try.call63 (by simp only [List.map_cons, List.map_nil, List.map_toArray, List.toList_toArray, upd_get, ev, Nat.reduceEqDiff, ↓reduceIte] <;> rfl) (Keep_c ⟨_, _, ⟨_, _, _, _⟩⟩ _ (SH.rsO H (i := 2) rfl) (SH.prop H (i := 3) rfl) (SH.rsO H (i := 5) rfl) (by omega) hr hsm7_3) ?_
    rintro _ w8_2 ⟨v8_2, raws8_2, g8_2, F8_2, rfl, K⟩
    refine ⟨_, rfl, ?_⟩
    replace H := SH.call H K
    clear K
    try dsimp only [replC, List.cons_append, List.nil_append, List.append_nil] at H
    have hr2 := keep_right (mmA ⟨c % 8, 1 + s % 40, ⟨c7_3, s7_3, a7_3, v7_3⟩⟩ gs7_3) hr
    have hml2 := keep_len ms (mmA ⟨c % 8, 1 + s % 40, ⟨c7_3, s7_3, a7_3, v7_3⟩⟩ gs7_3)
    have hag := keep_again (ms := ms) hmay
    obtain ⟨x, hx, hle⟩ := keep_has (ms := ms) hmay
    have hxr := may_len (right_may hr2 x (find_key hx).2)
    replace hx : (keepN ms (mmA ⟨c % 8, 1 + s % 40, ⟨c7_3, s7_3, a7_3, v7_3⟩⟩ gs7_3)).find? (isK Mm.client (c % 8)) = some x := hx
    replace hle : 1 + s % 40 ≤ x.seq := hle
    obtain ⟨x1, x2, x3, x4, x5, x6⟩ := x
    dsimp only at hle hxr
    generalize hK : keepN ms (mmA ⟨c % 8, 1 + s % 40, ⟨c7_3, s7_3, a7_3, v7_3⟩⟩ gs7_3) = ms2 at *
    have hk2 : MmsA F8_2 raws8_2 ms2 w8_2 := SH.prop H (i := 8) rfl
    have l2 := All2.len hk2
    have hup2 := all2_up mmr_key hk2 (right_up hr2)
    have hf0 : freshM raws8_2 (c % 8) x2 = 0 := by rw [fresh_raw hk2, fresh_some hx, if_neg (by dsimp only; omega), if_pos rfl]
    have hf1 : freshM raws8_2 (c % 8) (x2 + 1) = 1 := by rw [fresh_raw hk2, fresh_some hx, if_pos (by dsimp only; omega)]
    have hf2 : freshM raws8_2 (c % 8) (x2 - 1) = -1 := by rw [fresh_raw hk2, fresh_some hx, if_neg (by dsimp only; omega), if_neg (by dsimp only; omega)]
    refine r_assign rfl ?_
    refine LW.nil ?_
    refine thenE_norm (h10 _ _ ?_); clear h10; try clear K10
    refine CW.seq (fun K11 h11 => ?_)
    refine CW.region ?_
    refine r_move rfl ?_
    refine r_fieldAddrO rfl Try.underlying66 rfl Try.sizeOf3 (by decide) (show _ = 0 from rfl) rfl ?_
    refine r_load rfl Try.isAgg3 rfl (by first | exact SH.cellB H (by (repeat first | exact At.here | apply At.there); done) (by rfl) | assumption) ?_
    refine r_call rfl Try.call68 (by simp only [List.map_cons, List.map_nil, List.map_toArray, List.toList_toArray, upd_get, ev, Nat.reduceEqDiff, ↓reduceIte] <;> rfl) (Last_c _ _ (SH.rsO H (i := 7) rfl) (SH.prop H (i := 8) rfl) (by omega) (right_short hr2) hup2) ?_
    rintro _ w9_3 ⟨v9_3, g9_3, rfl, K⟩
    refine ⟨_, rfl, ?_⟩
    replace H := SH.call H K
    clear K
    try dsimp only [replC, List.cons_append, List.nil_append, List.append_nil] at H
    rw [lastN_some hx] at H ⊢
    dsimp only at H ⊢
    refine r_move rfl ?_
    refine r_extract rfl (by simp only [upd_get, ev, Nat.reduceEqDiff, ↓reduceIte] <;> rfl) (by simp only [List.getElem?_toArray, List.getElem?_cons_zero, List.getElem?_cons_succ] <;> rfl) ?_
    refine r_extract rfl (by simp only [upd_get, ev, Nat.reduceEqDiff, ↓reduceIte] <;> rfl) (by simp only [List.getElem?_toArray, List.getElem?_cons_zero, List.getElem?_cons_succ] <;> rfl) ?_
    refine s_alloc (cs := [.int .i64 0, .int .i64 0, .int .i64 0, .int .i64 0, .int .i64 0, .slice none 0 0]) H rfl Try.zeroValue80 rfl ?_
    clear H
    intro b9_7 w9_7 H
    try dsimp only [replC, List.cons_append, List.nil_append, List.append_nil, agg, cellsL, Value.cells, List.toList_toArray, List.set_cons_zero, List.set_cons_succ, spliceL, List.take_succ_cons, List.take_zero, List.drop_succ_cons, List.drop_zero, List.length_cons, List.length_nil, Nat.reduceAdd, Row.cells, Gr.L, Rep.L, Mem.L, Ans.L, Act9.L] at H
    refine s_storeA H Try.sizeOf80 rfl (by simp only [upd_get, ev, Nat.reduceEqDiff, ↓reduceIte] <;> rfl) (by simp only [cellsL, agg, List.toList_toArray, Row.cells, Gr.L, Rep.L, Mem.L, Ans.L, Act9.L] <;> rfl) (by rfl) (by first | rfl | assumption | exact Rs.oneC (by first | assumption | exact SH.rsR H (by (repeat first | exact At.here | apply At.there); done) | exact SH.rsO H (by (repeat first | exact At.here | apply At.there); done) | exact (Rs.nil : Rs Non _ _ _)) | (simp only [List.all_cons, List.all_nil, Bool.and_true, Bool.and_eq_true, Row.cells, Gr.L, Rep.L, Mem.L, Ans.L, Act9.L]; (repeat' constructor) <;> first | rfl | assumption | exact Rs.oneC (by first | assumption | exact SH.rsR H (by (repeat first | exact At.here | apply At.there); done) | exact SH.rsO H (by (repeat first | exact At.here | apply At.there); done) | exact (Rs.nil : Rs Non _ _ _)))) (by (repeat first | exact At.here | apply At.there); done) (by first | (simp; done) | decide | (show _ ≤ _; decide)) ?_
    clear H
    intro w9_8 H
    try dsimp only [replC, List.cons_append, List.nil_append, List.append_nil, agg, cellsL, Value.cells, List.toList_toArray, List.set_cons_zero, List.set_cons_succ, spliceL, List.take_succ_cons, List.take_zero, List.drop_succ_cons, List.drop_zero, List.length_cons, List.length_nil, Nat.reduceAdd, Row.cells, Gr.L, Rep.L, Mem.L, Ans.L, Act9.L] at H
    refine r_assign rfl ?_
    refine LW.nil ?_
    refine thenE_norm ?_
    refine cut (K := K11) [9, 11, 12, 13, 14, 15] (fun σ => ?_)
    simp only [setL, keepE, upd_get, ev, Nat.reduceEqDiff, ↓reduceIte]
    refine h11 _ _ ?_; clear h11; try clear K11
    refine CW.seq (fun K12 h12 => ?_)
    refine CW.region ?_
    refine r_move rfl ?_
    refine r_loadA rfl Try.isAgg66 Try.sizeOf66 rfl (by first | exact SH.cells H (by (repeat first | exact At.here | apply At.there); done)) (by rfl) ?_
    refine r_call rfl Try.call63 (by simp only [List.map_cons, List.map_nil, List.map_toArray, List.toList_toArray, upd_get, ev, Nat.reduceEqDiff, ↓reduceIte] <;> rfl) (Keep_c ⟨_, _, ⟨_, _, _, _⟩⟩ _ (SH.rsO H (i := 7) rfl) (SH.prop H (i := 8) rfl) (SH.rsO H (i := 5) rfl) (by omega) hr2 hsm7_3) ?_
    rintro _ w10_2 ⟨v10_2, raws10_2, g10_2, F10_2, rfl, K⟩
    refine ⟨_, rfl, ?_⟩
    replace H := SH.call H K
    clear K
    try dsimp only [replC, List.cons_append, List.nil_append, List.append_nil] at H
    rw [hag] at H
    refine r_assign rfl ?_
    refine LW.nil ?_
    refine thenE_norm (h12 _ _ ?_); clear h12; try clear K12
    refine CW.seq (fun K13 h13 => ?_)
    refine CW.region ?_
    refine r_move rfl ?_
    refine r_move rfl ?_
    refine LW.known (t := 66) (c := true) rfl (by first | rfl | (simp only [decide_eq_true_eq, decide_eq_false_iff_not, Bool.and_eq_true, Bool.or_eq_true, Bool.and_eq_false_iff, Bool.or_eq_false_iff, Bool.not_eq_true', Bool.not_eq_false', beq_iff_eq, bne_iff_ne]; omega) | simp_all) (fun hg11_2 => ?_)
    refine LW.want rfl rfl hg11_2 ?_
    refine r_fieldAddrO rfl Try.underlying80 rfl Try.sizeOf3 (by decide) (show _ = 1 from rfl) rfl ?_
    refine LW.want rfl rfl hg11_2 ?_
    refine r_load rfl Try.isAgg3 rfl (by first | exact SH.cellB H (by (repeat first | exact At.here | apply At.there); done) (by rfl) | assumption) ?_
    refine LW.want rfl rfl hg11_2 ?_
    refine r_fieldAddrO rfl Try.underlying66 rfl Try.sizeOf3 (by decide) (show _ = 1 from rfl) rfl ?_
    refine LW.want rfl rfl hg11_2 ?_
    refine r_load rfl Try.isAgg3 rfl (by first | exact SH.cellB H (by (repeat first | exact At.here | apply At.there); done) (by rfl) | assumption) ?_
    refine LW.want rfl rfl hg11_2 ?_
    refine r_geq rfl rfl rfl ?_
    refine r_pickT rfl rfl hg11_2 ?_
    refine r_move rfl ?_
    refine LW.known (t := 73) (c := true) rfl (by simpa using hle) (fun hg11_9 => ?_)
    refine LW.want rfl rfl hg11_9 ?_
    refine r_move rfl ?_
    refine LW.want rfl rfl hg11_9 ?_
    refine r_fieldAddrO rfl Try.underlying66 rfl Try.sizeOf3 (by decide) (show _ = 0 from rfl) rfl ?_
    refine LW.want rfl rfl hg11_9 ?_
    refine r_load rfl Try.isAgg3 rfl (by first | exact SH.cellB H (by (repeat first | exact At.here | apply At.there); done) (by rfl) | assumption) ?_
    refine LW.want rfl rfl hg11_9 ?_
    refine r_fieldAddrO rfl Try.underlying80 rfl Try.sizeOf3 (by decide) (show _ = 1 from rfl) rfl ?_
    refine LW.want rfl rfl hg11_9 ?_
    refine r_load rfl Try.isAgg3 rfl (by first | exact SH.cellB H (by (repeat first | exact At.here | apply At.there); done) (by rfl) | assumption) ?_
    refine LW.want rfl rfl hg11_9 ?_
    refine r_call rfl Try.call66 (by simp only [List.map_cons, List.map_nil, List.map_toArray, List.toList_toArray, upd_get, ev, Nat.reduceEqDiff, ↓reduceIte] <;> rfl) (FreshM_c _ _ _ (SH.rsO H (i := 7) rfl) (by omega) hup2) ?_
    rintro _ w11_14 ⟨rfl, X⟩
    refine ⟨_, rfl, ?_⟩
    replace H := SH.same H X
    clear X
    refine LW.want rfl rfl hg11_9 ?_
    refine r_eql rfl rfl rfl ?_
    refine r_pickT rfl rfl hg11_9 ?_
    refine r_move rfl ?_
    refine LW.known (t := 82) (c := true) rfl (by rw [hf0]; rfl) (fun hg11_18 => ?_)
    refine LW.want rfl rfl hg11_18 ?_
    refine r_move rfl ?_
    refine LW.want rfl rfl hg11_18 ?_
    refine r_fieldAddrO rfl Try.underlying66 rfl Try.sizeOf3 (by decide) (show _ = 0 from rfl) rfl ?_
    refine LW.want rfl rfl hg11_18 ?_
    refine r_load rfl Try.isAgg3 rfl (by first | exact SH.cellB H (by (repeat first | exact At.here | apply At.there); done) (by rfl) | assumption) ?_
    refine LW.want rfl rfl hg11_18 ?_
    refine r_fieldAddrO rfl Try.underlying80 rfl Try.sizeOf3 (by decide) (show _ = 1 from rfl) rfl ?_
    refine LW.want rfl rfl hg11_18 ?_
    refine r_load rfl Try.isAgg3 rfl (by first | exact SH.cellB H (by (repeat first | exact At.here | apply At.there); done) (by rfl) | assumption) ?_
    refine LW.want rfl rfl hg11_18 ?_
    refine r_add rfl rfl rfl (wr_i64 (by omega) (by omega)) ?_
    refine LW.want rfl rfl hg11_18 ?_
    refine r_call rfl Try.call66 (by simp only [List.map_cons, List.map_nil, List.map_toArray, List.toList_toArray, upd_get, ev, Nat.reduceEqDiff, ↓reduceIte] <;> rfl) (FreshM_c _ _ _ (SH.rsO H (i := 7) rfl) (by omega) hup2) ?_
    rintro _ w11_24 ⟨rfl, X⟩
    refine ⟨_, rfl, ?_⟩
    replace H := SH.same H X
    clear X
    refine LW.want rfl rfl hg11_18 ?_
    refine r_eql rfl rfl rfl ?_
    refine r_pickT rfl rfl hg11_18 ?_
    refine r_move rfl ?_
    refine LW.known (t := 92) (c := true) rfl (by rw [hf1]; rfl) (fun hg11_28 => ?_)
    refine LW.want rfl rfl hg11_28 ?_
    refine r_move rfl ?_
    refine LW.want rfl rfl hg11_28 ?_
    refine r_fieldAddrO rfl Try.underlying66 rfl Try.sizeOf3 (by decide) (show _ = 0 from rfl) rfl ?_
    refine LW.want rfl rfl hg11_28 ?_
    refine r_load rfl Try.isAgg3 rfl (by first | exact SH.cellB H (by (repeat first | exact At.here | apply At.there); done) (by rfl) | assumption) ?_
    refine LW.want rfl rfl hg11_28 ?_
    refine r_fieldAddrO rfl Try.underlying80 rfl Try.sizeOf3 (by decide) (show _ = 1 from rfl) rfl ?_
    refine LW.want rfl rfl hg11_28 ?_
    refine r_load rfl Try.isAgg3 rfl (by first | exact SH.cellB H (by (repeat first | exact At.here | apply At.there); done) (by rfl) | assumption) ?_
    refine LW.want rfl rfl hg11_28 ?_
    refine r_sub rfl rfl rfl (wr_i64 (by omega) (by omega)) ?_
    refine LW.want rfl rfl hg11_28 ?_
    refine r_call rfl Try.call66 (by simp only [List.map_cons, List.map_nil, List.map_toArray, List.toList_toArray, upd_get, ev, Nat.reduceEqDiff, ↓reduceIte] <;> rfl) (FreshM_c _ _ _ (SH.rsO H (i := 7) rfl) (by omega) hup2) ?_
    rintro _ w11_34 ⟨rfl, X⟩
    refine ⟨_, rfl, ?_⟩
    replace H := SH.same H X
    clear X
    refine LW.want rfl rfl hg11_28 ?_
    refine r_eql rfl rfl rfl ?_
    refine r_pickT rfl rfl hg11_28 ?_
    refine r_move rfl ?_
    refine LW.known (t := 102) (c := true) rfl (by rw [hf2]; rfl) (fun hg11_38 => ?_)
    refine LW.want rfl rfl hg11_38 ?_
    refine r_move rfl ?_
    refine LW.want rfl rfl hg11_38 ?_
    refine r_move rfl ?_
    refine LW.want rfl rfl hg11_38 ?_
    refine r_call rfl Try.call64 (by simp only [List.map_cons, List.map_nil, List.map_toArray, List.toList_toArray, upd_get, ev, Nat.reduceEqDiff, ↓reduceIte] <;> rfl) (SameMemos_c _ (SH.rsO H (i := 11) rfl) (SH.rsO H (i := 7) rfl) (SH.prop H (i := 12) rfl) (SH.prop H (i := 8) rfl)) ?_
    rintro _ w11_40 ⟨rfl, X⟩
    refine ⟨_, rfl, ?_⟩
    replace H := SH.same H X
    clear X
    refine r_pickT rfl rfl hg11_38 ?_
    refine r_move rfl ?_
    refine LW.known (t := 107) (c := true) rfl (by simp) (fun hg11_43 => ?_)
    refine LW.want rfl rfl hg11_43 ?_
    refine r_move rfl ?_
    refine LW.want rfl rfl hg11_43 ?_
    refine r_move rfl ?_
    refine LW.want rfl rfl hg11_43 ?_
    refine r_call rfl Try.call64 (by simp only [List.map_cons, List.map_nil, List.map_toArray, List.toList_toArray, upd_get, ev, Nat.reduceEqDiff, ↓reduceIte] <;> rfl) (SameMemos_c _ (SH.rsO H (i := 2) rfl) (SH.rsO H (i := 4) rfl) (SH.prop H (i := 3) rfl) (SH.prop H (i := 3) rfl)) ?_
    rintro _ w11_45 ⟨rfl, X⟩
    refine ⟨_, rfl, ?_⟩
    replace H := SH.same H X
    clear X
    refine r_pickT rfl rfl hg11_43 ?_
    refine r_move rfl ?_
    refine LW.known (t := 112) (c := true) rfl (by simp) (fun hg11_48 => ?_)
    refine LW.want rfl rfl hg11_48 ?_
    refine r_call rfl Try.call59 (by simp only [List.map_cons, List.map_nil, List.map_toArray, List.toList_toArray, upd_get, ev, Nat.reduceEqDiff, ↓reduceIte] <;> rfl) (awake9_c _) ?_
    rintro _ w11_48 ⟨rfl, X⟩
    refine ⟨_, rfl, ?_⟩
    replace H := SH.same H X
    clear X
    refine r_pickT rfl rfl hg11_48 ?_
    refine r_assign rfl ?_
    refine LW.nil ?_
    refine thenE_norm ?_
    refine cut (K := K13) [8] (fun σ => ?_)
    simp only [setL, keepE, upd_get, ev, Nat.reduceEqDiff, ↓reduceIte]
    refine h13 _ _ ?_; clear h13; try clear K13
    refine CW.ret (ret1 Try.results17 (by simp only [upd_get, ev, Nat.reduceEqDiff, ↓reduceIte]; rfl) ?_)
    exact ⟨rfl, H.ext⟩
end Go.Proofs.Ytlfbofnfhhddbaa
