/-
  The walks of layer 14's laws, the second part: AcceptTrims.
-/
import Derived.Test.YtalieccfdmokmaaVAcC
namespace Go.Proofs.Ytalieccfdmokmaa
set_option linter.unusedSimpArgs false
set_option linter.unusedVariables false
set_option maxRecDepth 20000
open Go.V Go.RowKit Go.ChangeShapes Go.WideShapes

theorem acc_shape (s : AcS) (m : Vm) : (accM s m).1.done = s.done ∧ ((accM s m).1.ballot = s.ballot ∨ (accM s m).1.ballot = m.ballot) := by
  unfold accM
  split
  · split
    · exact ⟨rfl, .inl rfl⟩
    · split
      · exact ⟨rfl, .inl rfl⟩
      · exact ⟨rfl, .inr rfl⟩
  · exact ⟨rfl, .inl rfl⟩
theorem trim0 {s : AcS} {d : Int} (h : OkS s) (h0 : s.done = 0) (d0 : 0 ≤ d) (d1 : d ≤ 2305843009213693952) : trimM s d = ⟨s.ballot, d, s.l.filter fun m => !decide (m.slot ≤ d)⟩ := by
  by_cases hz : d = 0
  · subst hz
    rw [trim_no (.inl (by omega))]
    have hf : (s.l.filter fun m => !decide (m.slot ≤ 0)) = s.l := List.filter_eq_self.2 fun m hm => by
      have := h.all m hm
      rw [decide_eq_false (by omega)]; rfl
    rw [hf]
    obtain ⟨s1, s2, s3⟩ := s
    dsimp only at h0
    rw [h0]
  · rw [trim_go (by omega)]
set_option maxHeartbeats 16000000 in
theorem AcceptTrims_c {F F2 : Nat → Prop} {v nv : Value} {slots ns : List UInt8} (dn : Int) (w : World) (hv : Rs F w v slots) (hn : Rs F2 w nv ns) (hl : ns.length ≤ 140737488355328) (d0 : 0 ≤ dn) (d1 : dn < 256) :
    Calls Try.prog 14 #[v, .int .u8 dn, nv] w fun e w' => e = .returned (.bool true) ∧ Ext0 w w' := by
  have H := ((SH.start w).arg hv).arg hn
  have h63 := hv.len63
  refine calls_of_CW Try.func14 rfl Try.ntmps14 (Nat.le_of_ble_eq_true rfl) ?_
  simp only [argE, argFrom, Nat.reduceAdd]
  refine CW.seq (fun K1 h1 => ?_)
  refine CW.region ?_
  refine r_assign rfl ?_
  refine LW.nil ?_
  refine thenE_norm (h1 _ _ ?_); clear h1; try clear K1
  refine CW.seq (fun K2 h2 => ?_)
  refine CW.region ?_
  refine r_call rfl Try.call27 (by simp only [List.map_cons, List.map_nil, List.map_toArray, List.toList_toArray, upd_get, ev, Nat.reduceEqDiff, ↓reduceIte] <;> rfl) (AccNew_c _) ?_
  rintro _ w1_0 ⟨p, FN, rfl, K⟩
  refine ⟨_, rfl, ?_⟩
  replace H := SH.call H K
  clear K
  try dsimp only [replC, List.cons_append, List.nil_append, List.append_nil] at H
  refine r_assign rfl ?_
  refine LW.nil ?_
  refine thenE_norm (h2 _ _ ?_); clear h2; try clear K2
  refine CW.seq (fun K3 h3 => ?_)
  refine CW.seq (fun K4 h4 => ?_)
  refine CW.region ?_
  refine r_move rfl ?_
  refine r_eqlP rfl Try.underlying53 rfl rfl ?_
  refine LW.nil ?_
  refine thenE_norm (h4 _ _ ?_); clear h4; try clear K4
  refine CW.condF rfl (by first | rfl | (simp only [decide_eq_true_eq, decide_eq_false_iff_not, Bool.and_eq_true, Bool.or_eq_true, Bool.and_eq_false_iff, Bool.or_eq_false_iff, Bool.not_eq_true', Bool.not_eq_false', beq_iff_eq, bne_iff_ne]; omega) | simp_all) ?_
  refine CW.skip ?_
  refine thenE_norm (h3 _ _ ?_); clear h3; try clear K3
  refine CW.seq (fun K5 h5 => ?_)
  refine CW.seq (fun K6 h6 => ?_)
  refine CW.region ?_
  refine r_assign rfl ?_
  refine LW.nil ?_
  refine thenE_norm (h6 _ _ ?_); clear h6; try clear K6
  refine CW.block ?_
  refine CW.loopR [0, 1, 2, 7] [8] (fun m vs w' => ∃ (i : Nat) (s : AcS) (FN : Nat → Prop), vs = [.int .i64 i] ∧ i ≤ slots.length ∧ m = slots.length - i ∧ s.done = 0 ∧ s.ballot ≤ 1 ∧ SH Non Any w w' [.R (Old w) v slots, .R (Old w) nv ns, .P FN (AccA p s FN)]) (slots.length) ?_ ?_
  · exact ⟨0, ⟨0, 0, []⟩, _, rfl, by omega, by omega, rfl, by decide, H⟩
  try clear H
  rintro n1 vs1 wL1 σ ⟨i, s, FN, rfl, hi, rfl, hs0, hs1, H⟩
  simp only [setL, keepE, upd_get, ev, Nat.reduceEqDiff, ↓reduceIte]
  refine CW.seq (fun K7 h7 => ?_)
  refine CW.seq (fun K8 h8 => ?_)
  refine CW.region ?_
  refine r_move rfl ?_
  refine r_move rfl ?_
  first
    | refine r_lenV rfl Try.underlying22 (by simp only [upd_get, ev, Nat.reduceEqDiff, ↓reduceIte] <;> rfl) (by first | assumption | exact SH.rsR H (by (repeat first | exact At.here | apply At.there); done) | exact SH.rsO H (by (repeat first | exact At.here | apply At.there); done) | exact (Rs.nil : Rs Non _ _ _)) ?_
    | refine r_len rfl Try.underlying22 rfl ?_
  refine r_lss rfl rfl rfl ?_
  refine r_move rfl ?_
  refine' LW.grpAnd (n := 3) (ts := [0, 1, 2, 7, 8]) (d := 26) (tj := 23) rfl (fun hg5_5 => ?_) (fun hg5_5 => ?_) (fun σ => ?_)
  rotate_left
  · simp only [List.take_succ_cons, List.take_zero]
    have hg5_5P := hg5_5
    try simp only [decide_eq_true_eq, decide_eq_false_iff_not, Bool.and_eq_true, Bool.or_eq_true, Bool.and_eq_false_iff, Bool.or_eq_false_iff, Bool.not_eq_true', Bool.not_eq_false', beq_iff_eq, bne_iff_ne] at hg5_5P
    refine LW.want rfl rfl hg5_5 ?_
    refine r_move rfl ?_
    refine LW.want rfl rfl hg5_5 ?_
    refine r_lss rfl rfl rfl ?_
    refine r_pickT rfl rfl hg5_5 ?_
    refine LW.nil (thenE_norm ⟨rfl, rfl, rfl⟩)
  · simp only [List.take_succ_cons, List.take_zero]
    refine LW.skip rfl (fun _ e => by cases e; decide) rfl hg5_5 ?_
    refine LW.skip rfl (fun _ e => by cases e; decide) rfl hg5_5 ?_
    refine r_pickF rfl rfl hg5_5 ?_
    refine LW.nil (thenE_norm ⟨rfl, rfl, rfl⟩)
  simp only [setL, keepE, upd_get, ev, Nat.reduceEqDiff, ↓reduceIte]; simp only [List.drop_succ_cons, List.drop_zero]
  refine LW.nil ?_
  refine thenE_norm (h8 _ _ ?_); clear h8; try clear K8
  refine CW.cond rfl (fun hc2 => ?_) (fun hc2 => ?_)
  · try simp only [decide_eq_true_eq, decide_eq_false_iff_not, Bool.and_eq_true, Bool.or_eq_true, Bool.and_eq_false_iff, Bool.or_eq_false_iff, Bool.not_eq_true', Bool.not_eq_false', beq_iff_eq, bne_iff_ne, ne_eq, Decidable.not_not] at hc2
    refine CW.skip ?_
    refine thenE_norm (h7 _ _ ?_); clear h7; try clear K7
    refine CW.seq (fun K9 h9 => ?_)
    refine CW.block ?_
    obtain ⟨x, hx⟩ := get_of_lt (show i < slots.length by omega)
    have hxl := x.toNat_lt
    refine CW.drawP [0] [] H (by dsimp only [pickC, nthC] <;> rfl) (by repeat first | exact List.Sublist.refl _ | exact List.nil_sublist _ | apply List.Sublist.cons_cons | apply List.Sublist.cons) (by kernel_rfl) rfl ?_
    clear H
    intro w7d H
    refine DL.take (i := 0) [] rfl (by kernel_rfl) (by kernel_rfl) (by kernel_rfl) (by kernel_rfl) rfl rfl (fun u H => x_move ) (SH.sub H (by repeat first | exact List.Sublist.refl _ | exact List.nil_sublist _ | apply List.Sublist.cons_cons | apply List.Sublist.cons)) ?_
    refine DL.take (i := 1) [] rfl (by kernel_rfl) (by kernel_rfl) (by kernel_rfl) (by kernel_rfl) rfl rfl (fun u H => x_move ) (SH.sub H (by repeat first | exact List.Sublist.refl _ | exact List.nil_sublist _ | apply List.Sublist.cons_cons | apply List.Sublist.cons)) ?_
    refine DL.take (i := 2) [] rfl (by kernel_rfl) (by kernel_rfl) (by kernel_rfl) (by kernel_rfl) rfl rfl (fun u H => x_move ) (SH.sub H (by repeat first | exact List.Sublist.refl _ | exact List.nil_sublist _ | apply List.Sublist.cons_cons | apply List.Sublist.cons)) ?_
    refine DL.take (i := 3) [] rfl (by kernel_rfl) (by kernel_rfl) (by kernel_rfl) (by kernel_rfl) rfl rfl (fun u H => x_indexAddrV Try.underlying22 (by simp only [upd_get, ev, Nat.reduceEqDiff, ↓reduceIte] <;> rfl) rfl (by first | assumption | exact SH.rsR H (by (repeat first | exact At.here | apply At.there); done) | exact SH.rsO H (by (repeat first | exact At.here | apply At.there); done) | exact (Rs.nil : Rs Non _ _ _)) (by exact Try.sizeOf5) (by omega) (by omega)) (SH.sub H (by repeat first | exact List.Sublist.refl _ | exact List.nil_sublist _ | apply List.Sublist.cons_cons | apply List.Sublist.cons)) ?_
    refine DL.take (i := 4) [] rfl (by kernel_rfl) (by kernel_rfl) (by kernel_rfl) (by kernel_rfl) rfl rfl (fun u H => x_load Try.isAgg5 rfl (by first | exact Rs.cell (by first | assumption | exact SH.rsR H (by (repeat first | exact At.here | apply At.there); done) | exact SH.rsO H (by (repeat first | exact At.here | apply At.there); done) | exact (Rs.nil : Rs Non _ _ _)) (by assumption) (by rfl) | exact Rs.cell0 (by first | assumption | exact SH.rsR H (by (repeat first | exact At.here | apply At.there); done) | exact SH.rsO H (by (repeat first | exact At.here | apply At.there); done) | exact (Rs.nil : Rs Non _ _ _)) (by assumption) (by rfl) | assumption)) (SH.sub H (by repeat first | exact List.Sublist.refl _ | exact List.nil_sublist _ | apply List.Sublist.cons_cons | apply List.Sublist.cons)) ?_
    refine DL.take (i := 5) [] rfl (by kernel_rfl) (by kernel_rfl) (by kernel_rfl) (by kernel_rfl) rfl rfl (fun u H => x_convI Try.underlying5 Try.underlying3 rfl (wr_i64 (by omega) (by omega))) (SH.sub H (by repeat first | exact List.Sublist.refl _ | exact List.nil_sublist _ | apply List.Sublist.cons_cons | apply List.Sublist.cons)) ?_
    refine DL.take (i := 6) [] rfl (by kernel_rfl) (by kernel_rfl) (by kernel_rfl) (by kernel_rfl) rfl rfl (fun u H => x_rem rfl rfl (by omega) (by omega) (wr_i64 (by omega) (by omega))) (SH.sub H (by repeat first | exact List.Sublist.refl _ | exact List.nil_sublist _ | apply List.Sublist.cons_cons | apply List.Sublist.cons)) ?_
    refine DL.take (i := 7) [] rfl (by kernel_rfl) (by kernel_rfl) (by kernel_rfl) (by kernel_rfl) rfl rfl (fun u H => x_add rfl rfl (wr_i64 (by omega) (by omega))) (SH.sub H (by repeat first | exact List.Sublist.refl _ | exact List.nil_sublist _ | apply List.Sublist.cons_cons | apply List.Sublist.cons)) ?_
    refine DL.take (i := 8) [] rfl (by kernel_rfl) (by kernel_rfl) (by kernel_rfl) (by kernel_rfl) rfl rfl (fun u H => x_move ) (SH.sub H (by repeat first | exact List.Sublist.refl _ | exact List.nil_sublist _ | apply List.Sublist.cons_cons | apply List.Sublist.cons)) ?_
    refine DL.one (i := 9) (by kernel_rfl) rfl rfl ?_
    refine r_call rfl Try.call16 (by simp only [List.map_cons, List.map_nil, List.map_toArray, List.toList_toArray, upd_get, ev, Nat.reduceEqDiff, ↓reduceIte] <;> rfl) (BatchN_c _ (SH.rsR H (i := 1) rfl) hl) ?_
    rintro _ w7_9 ⟨v7_9, g7_9, rfl, hm7_9, hs7_9, K⟩
    refine ⟨_, rfl, ?_⟩
    replace H := SH.call H K
    clear K
    try dsimp only [replC, List.cons_append, List.nil_append, List.append_nil] at H
    refine LW.nil (thenE_norm ⟨fun _ => (SH.sub H (by repeat first | exact List.Sublist.refl _ | exact List.nil_sublist _ | apply List.Sublist.cons_cons | apply List.Sublist.cons)), ?_⟩)
    refine DL.one (i := 10) (by kernel_rfl) rfl rfl ?_
    refine r_call rfl Try.call29 (by simp only [List.map_cons, List.map_nil, List.map_toArray, List.toList_toArray, upd_get, ev, Nat.reduceEqDiff, ↓reduceIte] <;> rfl) (Accept_c _ _ ⟨_, _, _, _, _⟩ _ (SH.prop H (i := 2) rfl) (SH.rsO H (i := 3) rfl) (SH.apartPO H (i := 2) (j := 3) rfl rfl (by decide)) hs7_9 (by omega)) ?_
    rintro _ w7_10 ⟨FN7_10, rfl, K⟩
    refine ⟨_, rfl, ?_⟩
    replace H := SH.updP H (i := 2) rfl K
    clear K
    try dsimp only [replC, List.cons_append, List.nil_append, List.append_nil] at H
    refine LW.nil (thenE_norm ⟨fun _ => (SH.sub H (by repeat first | exact List.Sublist.refl _ | exact List.nil_sublist _ | apply List.Sublist.cons_cons | apply List.Sublist.cons)), ?_⟩)
    refine DL.done (by kernel_rfl) ?_
    refine blockE_norm ?_
    refine thenE_norm (h9 _ _ ?_); clear h9; try clear K9
    refine CW.region ?_
    refine r_move rfl ?_
    refine r_add rfl rfl rfl (wr_i64 (by omega) (by omega)) ?_
    refine r_assign rfl ?_
    refine LW.nil ?_
    refine thenE_norm ⟨rfl, ?_⟩
    have hsh := acc_shape s (vmB (1 + (x.toNat : Int) % 9) 1 ⟨(batN ns).fill, (batN ns).view, (batN ns).tip, (batN ns).time, v7_9⟩ (batN ns).rs)
    exact ⟨slots.length - (i + 1), by omega, i + 1, _, _, rfl, by omega, rfl, hsh.1.trans hs0, by rcases hsh.2 with q | q <;> rw [q] <;> first | exact hs1 | exact Int.le_refl _, SH.sel H [0, 1, 2] (by decide) rfl⟩
  · try simp only [decide_eq_true_eq, decide_eq_false_iff_not, Bool.and_eq_true, Bool.or_eq_true, Bool.and_eq_false_iff, Bool.or_eq_false_iff, Bool.not_eq_true', Bool.not_eq_false', beq_iff_eq, bne_iff_ne, ne_eq, Decidable.not_not] at hc2
    refine CW.exit (thenE_exit (thenE_exit (blockE_hit ?_)))
    refine thenE_norm (h5 _ _ ?_); clear h5; try clear K5
    refine CW.seq (fun K10 h10 => ?_)
    have hok : OkS s := (SH.prop H (i := 2) rfl).1
    have hk0 := Int.emod_nonneg dn (show (10 : Int) ≠ 0 from by decide)
    have hk1 := Int.emod_lt_of_pos dn (show (0 : Int) < 10 from by decide)
    refine CW.region ?_
    refine r_move rfl ?_
    refine r_call rfl Try.call31 (by simp only [List.map_cons, List.map_nil, List.map_toArray, List.toList_toArray, upd_get, ev, Nat.reduceEqDiff, ↓reduceIte] <;> rfl) (Votes_c _ (SH.prop H (i := 2) rfl)) ?_
    rintro _ w8_1 ⟨v8_1, raws8_1, g8_1, F8_1, rfl, K⟩
    refine ⟨_, rfl, ?_⟩
    replace H := SH.call H K
    clear K
    try dsimp only [replC, List.cons_append, List.nil_append, List.append_nil] at H
    refine r_assign rfl ?_
    refine LW.nil ?_
    refine thenE_norm (h10 _ _ ?_); clear h10; try clear K10
    refine CW.seq (fun K11 h11 => ?_)
    refine CW.region ?_
    refine r_move rfl ?_
    refine r_convI rfl Try.underlying5 Try.underlying3 rfl (wr_i64 (by omega) (by omega)) ?_
    refine r_rem rfl rfl rfl (by omega) (by omega) (wr_i64 (by omega) (by omega)) ?_
    refine r_assign rfl ?_
    refine LW.nil ?_
    refine thenE_norm (h11 _ _ ?_); clear h11; try clear K11
    refine CW.seq (fun K12 h12 => ?_)
    generalize hd : dn % 10 = d at *
    refine CW.region ?_
    refine r_move rfl ?_
    refine r_move rfl ?_
    refine r_call rfl Try.call51 (by simp only [List.map_cons, List.map_nil, List.map_toArray, List.toList_toArray, upd_get, ev, Nat.reduceEqDiff, ↓reduceIte] <;> rfl) (TrimA_c d _ (SH.prop H (i := 2) rfl)) ?_
    rintro _ w10_2 ⟨FN10_2, rfl, K⟩
    refine ⟨_, rfl, ?_⟩
    replace H := SH.updP H (i := 2) rfl K
    clear K
    try dsimp only [replC, List.cons_append, List.nil_append, List.append_nil] at H
    rw [trim0 hok hs0 hk0 (by omega)] at H
    have l1 : raws8_1.length = s.l.length := All2.len (SH.prop H (i := 4) rfl)
    have l9 := hok.len
    refine LW.nil ?_
    refine thenE_norm ?_
    refine cut (K := K12) [2, 7, 9, 10] (fun σ => ?_)
    simp only [setL, keepE, upd_get, ev, Nat.reduceEqDiff, ↓reduceIte]
    refine h12 _ _ ?_; clear h12; try clear K12
    refine CW.seq (fun K13 h13 => ?_)
    refine CW.region ?_
    refine r_assign rfl ?_
    refine LW.nil ?_
    refine thenE_norm (h13 _ _ ?_); clear h13; try clear K13
    refine CW.seq (fun K14 h14 => ?_)
    refine CW.seq (fun K15 h15 => ?_)
    refine CW.region ?_
    refine r_assign rfl ?_
    refine LW.nil ?_
    refine thenE_norm (h15 _ _ ?_); clear h15; try clear K15
    refine CW.block ?_
    refine CW.loopR [2, 7, 9, 10] [11, 12] (fun m vs w' => ∃ (j : Nat) (u : Value) (g : Option Nat), vs = [u, .int .i64 j] ∧ j ≤ raws8_1.length ∧ m = raws8_1.length - j ∧ SH Non Any w w' [.R (Old w) v slots, .R (Old w) nv ns, .P FN10_2 (AccA p ⟨s.ballot, d, s.l.filter fun m => !decide (m.slot ≤ d)⟩ FN10_2), .O 61 v8_1 raws8_1 g8_1, .P F8_1 (VtsA F8_1 raws8_1 s.l), .O 61 u ((raws8_1.take j).filter fun r => !decide (r.slot ≤ d)) g]) (raws8_1.length) ?_ ?_
    · exact ⟨0, .slice none 0 0, none, rfl, by omega, by omega, by rw [List.take_zero, List.filter_nil]; exact H.addO (α := Vt) 61⟩
    try clear H
    rintro n2 vs2 wL2 σ ⟨j, u, g, rfl, hj, rfl, H⟩
    simp only [setL, keepE, upd_get, ev, Nat.reduceEqDiff, ↓reduceIte]
    refine CW.seq (fun K16 h16 => ?_)
    refine CW.seq (fun K17 h17 => ?_)
    refine CW.region ?_
    refine r_move rfl ?_
    refine r_move rfl ?_
    first
      | refine r_lenV rfl Try.underlying58 (by simp only [upd_get, ev, Nat.reduceEqDiff, ↓reduceIte] <;> rfl) (by first | assumption | exact SH.rsR H (by (repeat first | exact At.here | apply At.there); done) | exact SH.rsO H (by (repeat first | exact At.here | apply At.there); done) | exact (Rs.nil : Rs Non _ _ _)) ?_
      | refine r_len rfl Try.underlying58 rfl ?_
    refine r_lss rfl rfl rfl ?_
    refine LW.nil ?_
    refine thenE_norm (h17 _ _ ?_); clear h17; try clear K17
    refine CW.cond rfl (fun hc3 => ?_) (fun hc3 => ?_)
    · try simp only [decide_eq_true_eq, decide_eq_false_iff_not, Bool.and_eq_true, Bool.or_eq_true, Bool.and_eq_false_iff, Bool.or_eq_false_iff, Bool.not_eq_true', Bool.not_eq_false', beq_iff_eq, bne_iff_ne, ne_eq, Decidable.not_not] at hc3
      refine CW.skip ?_
      refine thenE_norm (h16 _ _ ?_); clear h16; try clear K16
      refine CW.seq (fun K18 h18 => ?_)
      refine CW.block ?_
      refine CW.seq (fun K19 h19 => ?_)
      obtain ⟨r, hr⟩ := get_of_lt (show j < raws8_1.length by omega)
      have hfl : ((raws8_1.take j).filter fun r => !decide (r.slot ≤ d)).length ≤ 9 := Nat.le_trans (List.length_filter_le _ _) (by rw [List.length_take]; omega)
      have htk := V.take_snoc hr
      obtain ⟨r1, r2, ⟨r3, r4, ⟨r5, r6⟩, r7, r8⟩⟩ := r
      have hro : oneC r8 = true := by have := List.all_eq_true.1 ((SH.rsO H (i := 3) rfl).2 _ (List.mem_of_getElem? hr)) r8 (by simp [Row.cells, Vt.L]); exact this
      refine CW.region ?_
      refine r_move rfl ?_
      refine r_move rfl ?_
      refine r_indexAddrV rfl Try.underlying58 (by simp only [upd_get, ev, Nat.reduceEqDiff, ↓reduceIte] <;> rfl) rfl (by first | assumption | exact SH.rsR H (by (repeat first | exact At.here | apply At.there); done) | exact SH.rsO H (by (repeat first | exact At.here | apply At.there); done) | exact (Rs.nil : Rs Non _ _ _)) (by exact Try.sizeOf61) (by omega) (by omega) ?_
      refine r_fieldAddrO rfl Try.underlying61 rfl Try.sizeOf3 (by decide) (show _ + 0 = _ from rfl) rfl ?_
      refine r_load rfl Try.isAgg3 rfl (by first | exact Rs.cell (by first | assumption | exact SH.rsR H (by (repeat first | exact At.here | apply At.there); done) | exact SH.rsO H (by (repeat first | exact At.here | apply At.there); done) | exact (Rs.nil : Rs Non _ _ _)) (by assumption) (by rfl) | exact Rs.cell0 (by first | assumption | exact SH.rsR H (by (repeat first | exact At.here | apply At.there); done) | exact SH.rsO H (by (repeat first | exact At.here | apply At.there); done) | exact (Rs.nil : Rs Non _ _ _)) (by assumption) (by rfl) | assumption) ?_
      refine r_move rfl ?_
      refine r_gtr rfl rfl rfl ?_
      refine LW.nil ?_
      refine thenE_norm ?_
      refine cut (K := K19) [2, 7, 9, 10, 11, 12, 60] (fun σ => ?_)
      simp only [setL, keepE, upd_get, ev, Nat.reduceEqDiff, ↓reduceIte]
      refine h19 _ _ ?_; clear h19; try clear K19
      refine CW.cond rfl (fun hc4 => ?_) (fun hc4 => ?_)
      · try simp only [decide_eq_true_eq, decide_eq_false_iff_not, Bool.and_eq_true, Bool.or_eq_true, Bool.and_eq_false_iff, Bool.or_eq_false_iff, Bool.not_eq_true', Bool.not_eq_false', beq_iff_eq, bne_iff_ne, ne_eq, Decidable.not_not] at hc4
        refine CW.region ?_
        refine r_move rfl ?_
        refine r_move rfl ?_
        refine r_move rfl ?_
        refine r_indexAddrV rfl Try.underlying58 (by simp only [upd_get, ev, Nat.reduceEqDiff, ↓reduceIte] <;> rfl) rfl (by first | assumption | exact SH.rsR H (by (repeat first | exact At.here | apply At.there); done) | exact SH.rsO H (by (repeat first | exact At.here | apply At.there); done) | exact (Rs.nil : Rs Non _ _ _)) (by exact Try.sizeOf61) (by omega) (by omega) ?_
        refine r_loadA rfl Try.isAgg61 Try.sizeOf61 rfl (by first | exact Rs.cells0 (by first | assumption | exact SH.rsR H (by (repeat first | exact At.here | apply At.there); done) | exact SH.rsO H (by (repeat first | exact At.here | apply At.there); done) | exact (Rs.nil : Rs Non _ _ _)) (by assumption)) (by rfl) ?_
        refine r_buildSliceA (vs := [_]) rfl Try.underlying58 Try.sizeOf61 Try.zeroValue61 rfl rfl rfl rfl (by simp only [List.map_cons, List.map_nil, List.toList_toArray, numbered, Nat.reduceAdd, upd_get, ev, Nat.reduceEqDiff, ↓reduceIte] <;> rfl) rfl (by intro v hv; simp only [List.mem_cons, List.not_mem_nil, or_false] at hv; rcases hv with rfl <;> rfl) ?_
        intro b16_5 w16_5 hb16_5 hs16_5 hE16_5 hB16_5
        replace H := SH.call H (SH.fromB hE16_5 hb16_5 hs16_5 hB16_5)
        clear hb16_5 hs16_5 hE16_5 hB16_5
        try dsimp only [replC, List.cons_append, List.nil_append, List.append_nil, agg, cellsL, Value.cells, List.toList_toArray, List.set_cons_zero, List.set_cons_succ, spliceL, List.take_succ_cons, List.take_zero, List.drop_succ_cons, List.drop_zero, List.length_cons, List.length_nil, Nat.reduceAdd, Row.cells, Cm.L, Rq.L, Tp.L, Bat.L, Vt.L] at H
        replace H := SH.row (b := b16_5) (xs := ([⟨r1, r2, ⟨r3, r4, ⟨r5, r6⟩, r7, r8⟩⟩] : List Vt)) (n := 1) (cap := 1) H (by (repeat first | exact At.here | apply At.there); done) (by simp only [flat, List.flatMap_cons, List.flatMap_nil, cellsL, agg, List.append_nil, List.cons_append, List.nil_append, List.toList_toArray, Row.cells, Cm.L, Rq.L, Tp.L, Bat.L, Vt.L] <;> rfl) (by intro x hx; first | rfl | (simp at hx; done) | (simp only [List.mem_cons, List.not_mem_nil, or_false] at hx; rcases hx with rfl <;> first | rfl | exact (by first | rfl | assumption | exact Rs.oneC (by first | assumption | exact SH.rsR H (by (repeat first | exact At.here | apply At.there); done) | exact SH.rsO H (by (repeat first | exact At.here | apply At.there); done) | exact (Rs.nil : Rs Non _ _ _)) | (simp only [List.all_cons, List.all_nil, Bool.and_true, Bool.and_eq_true, Row.cells, Cm.L, Rq.L, Tp.L, Bat.L, Vt.L]; (repeat' constructor) <;> first | rfl | assumption | exact Rs.oneC (by first | assumption | exact SH.rsR H (by (repeat first | exact At.here | apply At.there); done) | exact SH.rsO H (by (repeat first | exact At.here | apply At.there); done) | exact (Rs.nil : Rs Non _ _ _)))))) (by rfl) rfl (by decide)
        try dsimp only [replC, List.cons_append, List.nil_append, List.append_nil, agg, cellsL, Value.cells, List.toList_toArray, List.set_cons_zero, List.set_cons_succ, spliceL, List.take_succ_cons, List.take_zero, List.drop_succ_cons, List.drop_zero, List.length_cons, List.length_nil, Nat.reduceAdd, Row.cells, Cm.L, Rq.L, Tp.L, Bat.L, Vt.L] at H
        refine s_append H rfl Try.underlying58 Try.underlying58 Try.type61 rfl (by simp only [upd_get, ev, Nat.reduceEqDiff, ↓reduceIte] <;> rfl) (by simp only [upd_get, ev, Nat.reduceEqDiff, ↓reduceIte] <;> rfl) (by (repeat first | exact At.here | apply At.there); done) (by first | assumption | exact SH.rsR H (by (repeat first | exact At.here | apply At.there); done) | exact SH.rsO H (by (repeat first | exact At.here | apply At.there); done) | exact (Rs.nil : Rs Non _ _ _)) (by rfl) (by rfl) (by first | omega | (simp only [Try.t61, List.length_append, List.length_cons, List.length_nil, List.length_map, maxLen]; omega) | (simp [Try.t61, maxLen]; omega)) (by first | omega | (simp only [Try.t61, List.length_append, List.length_cons, List.length_nil, List.length_map, maxLen]; omega) | (simp [Try.t61, maxLen]; omega)) ?_
        clear H
        intro v16_6 w16_6 g16_6 H hN16_6
        try dsimp only [replC, List.cons_append, List.nil_append, List.append_nil] at H
        refine r_assign rfl ?_
        refine LW.nil ?_
        refine blockE_norm ?_
        refine thenE_norm (h18 _ _ ?_); clear h18; try clear K18
        refine CW.region ?_
        refine r_move rfl ?_
        refine r_add rfl rfl rfl (wr_i64 (by omega) (by omega)) ?_
        refine r_assign rfl ?_
        refine LW.nil ?_
        refine thenE_norm ⟨rfl, ?_⟩
        refine ⟨raws8_1.length - (j + 1), by omega, j + 1, v16_6, g16_6, rfl, by omega, rfl, ?_⟩
        rw [htk, List.filter_append, List.filter_cons, if_pos (by rw [decide_eq_false (show ¬ r1 ≤ d by omega)]; rfl), List.filter_nil]
        exact SH.sel H [0, 1, 2, 3, 4, 5] (by decide) rfl
      · try simp only [decide_eq_true_eq, decide_eq_false_iff_not, Bool.and_eq_true, Bool.or_eq_true, Bool.and_eq_false_iff, Bool.or_eq_false_iff, Bool.not_eq_true', Bool.not_eq_false', beq_iff_eq, bne_iff_ne, ne_eq, Decidable.not_not] at hc4
        refine CW.skip ?_
        refine blockE_norm ?_
        refine thenE_norm (h18 _ _ ?_); clear h18; try clear K18
        refine CW.region ?_
        refine r_move rfl ?_
        refine r_add rfl rfl rfl (wr_i64 (by omega) (by omega)) ?_
        refine r_assign rfl ?_
        refine LW.nil ?_
        refine thenE_norm ⟨rfl, ?_⟩
        refine ⟨raws8_1.length - (j + 1), by omega, j + 1, u, g, rfl, by omega, rfl, ?_⟩
        rw [htk, List.filter_append, List.filter_cons, if_neg (by rw [decide_eq_true (show r1 ≤ d by omega)]; decide), List.filter_nil, List.append_nil]
        exact SH.sel H [0, 1, 2, 3, 4, 5] (by decide) rfl
    · try simp only [decide_eq_true_eq, decide_eq_false_iff_not, Bool.and_eq_true, Bool.or_eq_true, Bool.and_eq_false_iff, Bool.or_eq_false_iff, Bool.not_eq_true', Bool.not_eq_false', beq_iff_eq, bne_iff_ne, ne_eq, Decidable.not_not] at hc3
      refine CW.exit (thenE_exit (thenE_exit (blockE_hit ?_)))
      refine thenE_norm (h14 _ _ ?_); clear h14; try clear K14
      refine CW.seq (fun K20 h20 => ?_)
      refine CW.seq (fun K21 h21 => ?_)
      obtain rfl : j = raws8_1.length := by omega
      rw [List.take_length] at H
      refine CW.region ?_
      refine r_move rfl ?_
      refine r_call rfl Try.call31 (by simp only [List.map_cons, List.map_nil, List.map_toArray, List.toList_toArray, upd_get, ev, Nat.reduceEqDiff, ↓reduceIte] <;> rfl) (Votes_c _ (SH.prop H (i := 2) rfl)) ?_
      rintro _ w17_1 ⟨v17_1, raws17_1, g17_1, F17_1, rfl, K⟩
      refine ⟨_, rfl, ?_⟩
      replace H := SH.call H K
      clear K
      try dsimp only [replC, List.cons_append, List.nil_append, List.append_nil] at H
      refine r_move rfl ?_
      refine r_call rfl Try.call54 (by simp only [List.map_cons, List.map_nil, List.map_toArray, List.toList_toArray, upd_get, ev, Nat.reduceEqDiff, ↓reduceIte] <;> rfl) (SameVotes_c _ (SH.rsO H (i := 6) rfl) (SH.rsO H (i := 5) rfl) (SH.prop H (i := 7) rfl) (all2_filt vtr_key (fun z => !decide (z ≤ d)) (SH.prop H (i := 4) rfl))) ?_
      rintro _ w17_3 ⟨rfl, X⟩
      refine ⟨_, rfl, ?_⟩
      replace H := SH.same H X
      clear X
      refine r_not rfl rfl ?_
      refine r_move rfl ?_
      refine LW.known (t := 73) (c := false) rfl (by simp) (fun hg17_6 => ?_)
      refine LW.want rfl rfl hg17_6 ?_
      refine r_move rfl ?_
      refine LW.want rfl rfl hg17_6 ?_
      refine r_call rfl Try.call53 (by simp only [List.map_cons, List.map_nil, List.map_toArray, List.toList_toArray, upd_get, ev, Nat.reduceEqDiff, ↓reduceIte] <;> rfl) (DoneA_c _ (SH.prop H (by (repeat first | exact At.here | apply At.there); done))) ?_
      rintro _ _ ⟨rfl, rfl⟩
      refine ⟨_, rfl, ?_⟩
      refine LW.want rfl rfl hg17_6 ?_
      refine r_move rfl ?_
      refine LW.want rfl rfl hg17_6 ?_
      refine r_neq rfl rfl rfl ?_
      refine r_pickF rfl rfl hg17_6 ?_
      refine LW.nil ?_
      refine thenE_norm ?_
      refine cut (K := K21) [2, 7, 10, 78] (fun σ => ?_)
      simp only [setL, keepE, upd_get, ev, Nat.reduceEqDiff, ↓reduceIte]
      refine h21 _ _ ?_; clear h21; try clear K21
      refine CW.condF rfl (by simp) ?_
      refine CW.skip ?_
      refine thenE_norm (h20 _ _ ?_); clear h20; try clear K20
      refine CW.seq (fun K22 h22 => ?_)
      by_cases hz : d = 0
      · refine CW.region ?_
        refine r_move rfl ?_
        refine r_move rfl ?_
        refine r_move rfl ?_
        refine r_call rfl Try.call16 (by simp only [List.map_cons, List.map_nil, List.map_toArray, List.toList_toArray, upd_get, ev, Nat.reduceEqDiff, ↓reduceIte] <;> rfl) (BatchN_c _ (SH.rsR H (i := 1) rfl) hl) ?_
        rintro _ w19_3 ⟨v19_3, g19_3, rfl, hm19_3, hs19_3, K⟩
        refine ⟨_, rfl, ?_⟩
        replace H := SH.call H K
        clear K
        try dsimp only [replC, List.cons_append, List.nil_append, List.append_nil] at H
        refine r_call rfl Try.call29 (by simp only [List.map_cons, List.map_nil, List.map_toArray, List.toList_toArray, upd_get, ev, Nat.reduceEqDiff, ↓reduceIte] <;> rfl) (Accept_c _ _ ⟨_, _, _, _, _⟩ _ (SH.prop H (i := 2) rfl) (SH.rsO H (i := 8) rfl) (SH.apartPO H (i := 2) (j := 8) rfl rfl (by decide)) hs19_3 (by omega)) ?_
        rintro _ w19_4 ⟨FN19_4, rfl, K⟩
        refine ⟨_, rfl, ?_⟩
        replace H := SH.updP H (i := 2) rfl K
        clear K
        try dsimp only [replC, List.cons_append, List.nil_append, List.append_nil] at H
        rw [acc_no (m := vmB d 1 ⟨(batN ns).fill, (batN ns).view, (batN ns).tip, (batN ns).time, v19_3⟩ (batN ns).rs) (by rintro ⟨-, q, -, -⟩; have q : 1 ≤ d := q; omega)] at H ⊢
        dsimp only at H ⊢
        refine r_assign rfl ?_
        refine LW.nil ?_
        refine thenE_norm (h22 _ _ ?_); clear h22; try clear K22
        refine CW.seq (fun K23 h23 => ?_)
        refine CW.region ?_
        refine r_move rfl ?_
        refine r_move rfl ?_
        refine r_add rfl rfl rfl (wr_i64 (by omega) (by omega)) ?_
        refine r_move rfl ?_
        refine r_call rfl Try.call16 (by simp only [List.map_cons, List.map_nil, List.map_toArray, List.toList_toArray, upd_get, ev, Nat.reduceEqDiff, ↓reduceIte] <;> rfl) (BatchN_c _ (SH.rsR H (i := 1) rfl) hl) ?_
        rintro _ w20_4 ⟨v20_4, g20_4, rfl, hm20_4, hs20_4, K⟩
        refine ⟨_, rfl, ?_⟩
        replace H := SH.call H K
        clear K
        try dsimp only [replC, List.cons_append, List.nil_append, List.append_nil] at H
        refine r_call rfl Try.call29 (by simp only [List.map_cons, List.map_nil, List.map_toArray, List.toList_toArray, upd_get, ev, Nat.reduceEqDiff, ↓reduceIte] <;> rfl) (Accept_c _ _ ⟨_, _, _, _, _⟩ _ (SH.prop H (i := 2) rfl) (SH.rsO H (i := 9) rfl) (SH.apartPO H (i := 2) (j := 9) rfl rfl (by decide)) hs20_4 (by omega)) ?_
        rintro _ w20_5 ⟨FN20_5, rfl, K⟩
        refine ⟨_, rfl, ?_⟩
        replace H := SH.updP H (i := 2) rfl K
        clear K
        try dsimp only [replC, List.cons_append, List.nil_append, List.append_nil] at H
        rw [acc_put (s := ⟨s.ballot, d, s.l.filter fun m => !decide (m.slot ≤ d)⟩) (m := vmB (d + 9) 1 ⟨(batN ns).fill, (batN ns).view, (batN ns).tip, (batN ns).time, v20_4⟩ (batN ns).rs) ⟨highM_t.2 ⟨show 0 ≤ (1 : Int) by decide, show (1 : Int) ≤ _ by decide⟩, show 1 ≤ d + 9 by omega, show d + 9 ≤ _ by omega, hm20_4⟩ (show ¬ (1 < s.ballot ∨ d + 9 ≤ d) by omega) (show ¬ 9 < d + 9 - d by omega)] at H ⊢
        dsimp only [vmB_b] at H ⊢
        generalize putK Vm.slot (s.l.filter fun m => !decide (m.slot ≤ d)) (vmB (d + 9) 1 ⟨(batN ns).fill, (batN ns).view, (batN ns).tip, (batN ns).time, v20_4⟩ (batN ns).rs) = L2 at *
        refine r_assign rfl ?_
        refine LW.nil ?_
        refine thenE_norm ?_
        refine cut (K := K23) [2, 7, 10, 13, 14] (fun σ => ?_)
        simp only [setL, keepE, upd_get, ev, Nat.reduceEqDiff, ↓reduceIte]
        refine h23 _ _ ?_; clear h23; try clear K23
        refine CW.seq (fun K24 h24 => ?_)
        refine CW.region ?_
        refine r_move rfl ?_
        refine r_move rfl ?_
        refine r_add rfl rfl rfl (wr_i64 (by omega) (by omega)) ?_
        refine r_move rfl ?_
        refine r_call rfl Try.call16 (by simp only [List.map_cons, List.map_nil, List.map_toArray, List.toList_toArray, upd_get, ev, Nat.reduceEqDiff, ↓reduceIte] <;> rfl) (BatchN_c _ (SH.rsR H (i := 1) rfl) hl) ?_
        rintro _ w21_4 ⟨v21_4, g21_4, rfl, hm21_4, hs21_4, K⟩
        refine ⟨_, rfl, ?_⟩
        replace H := SH.call H K
        clear K
        try dsimp only [replC, List.cons_append, List.nil_append, List.append_nil] at H
        refine r_call rfl Try.call29 (by simp only [List.map_cons, List.map_nil, List.map_toArray, List.toList_toArray, upd_get, ev, Nat.reduceEqDiff, ↓reduceIte] <;> rfl) (Accept_c _ _ ⟨_, _, _, _, _⟩ _ (SH.prop H (i := 2) rfl) (SH.rsO H (i := 10) rfl) (SH.apartPO H (i := 2) (j := 10) rfl rfl (by decide)) hs21_4 (by omega)) ?_
        rintro _ w21_5 ⟨FN21_5, rfl, K⟩
        refine ⟨_, rfl, ?_⟩
        replace H := SH.updP H (i := 2) rfl K
        clear K
        try dsimp only [replC, List.cons_append, List.nil_append, List.append_nil] at H
        rw [acc_full (s := ⟨_, d, L2⟩) (m := vmB (d + 10) 1 ⟨(batN ns).fill, (batN ns).view, (batN ns).tip, (batN ns).time, v21_4⟩ (batN ns).rs) ⟨highM_t.2 ⟨show 0 ≤ (1 : Int) by decide, show (1 : Int) ≤ _ by decide⟩, show 1 ≤ d + 10 by omega, show d + 10 ≤ _ by omega, hm21_4⟩ (show ¬ ((1 : Int) < (1 : Int) ∨ d + 10 ≤ d) by omega) (show 9 < d + 10 - d by omega)] at H ⊢
        dsimp only at H ⊢
        refine r_assign rfl ?_
        refine LW.nil ?_
        refine thenE_norm (h24 _ _ ?_); clear h24; try clear K24
        refine CW.seq (fun K25 h25 => ?_)
        refine CW.region ?_
        refine r_move rfl ?_
        refine r_move rfl ?_
        refine r_sub rfl rfl rfl (wr_i64 (by omega) (by omega)) ?_
        refine r_call rfl Try.call51 (by simp only [List.map_cons, List.map_nil, List.map_toArray, List.toList_toArray, upd_get, ev, Nat.reduceEqDiff, ↓reduceIte] <;> rfl) (TrimA_c (d - 1) _ (SH.prop H (i := 2) rfl)) ?_
        rintro _ w22_3 ⟨FN22_3, rfl, K⟩
        refine ⟨_, rfl, ?_⟩
        replace H := SH.updP H (i := 2) rfl K
        clear K
        try dsimp only [replC, List.cons_append, List.nil_append, List.append_nil] at H
        rw [trim_no (s := ⟨_, d, L2⟩) (.inl (show d - 1 ≤ d by omega))] at H
        refine LW.nil ?_
        refine thenE_norm ?_
        refine cut (K := K25) [7, 10, 13, 14, 15] (fun σ => ?_)
        simp only [setL, keepE, upd_get, ev, Nat.reduceEqDiff, ↓reduceIte]
        refine h25 _ _ ?_; clear h25; try clear K25
        refine CW.seq (fun K26 h26 => ?_)
        refine CW.region ?_
        refine r_move rfl ?_
        refine r_eql rfl rfl rfl ?_
        refine r_move rfl ?_
        refine LW.known (t := 102) (c := false) rfl (by first | rfl | (simp only [decide_eq_true_eq, decide_eq_false_iff_not, Bool.and_eq_true, Bool.or_eq_true, Bool.and_eq_false_iff, Bool.or_eq_false_iff, Bool.not_eq_true', Bool.not_eq_false', beq_iff_eq, bne_iff_ne]; omega) | simp_all) (fun hg23_3 => ?_)
        refine LW.skip rfl (fun _ e => by cases e; decide) rfl hg23_3 ?_
        refine LW.skip rfl (fun _ e => by cases e; decide) rfl hg23_3 ?_
        refine r_pickF rfl rfl hg23_3 ?_
        refine r_move rfl ?_
        refine LW.known (t := 106) (c := false) rfl (by first | rfl | (simp only [decide_eq_true_eq, decide_eq_false_iff_not, Bool.and_eq_true, Bool.or_eq_true, Bool.and_eq_false_iff, Bool.or_eq_false_iff, Bool.not_eq_true', Bool.not_eq_false', beq_iff_eq, bne_iff_ne]; omega) | simp_all) (fun hg23_7 => ?_)
        refine LW.want rfl rfl hg23_7 ?_
        refine r_move rfl ?_
        refine LW.want rfl rfl hg23_7 ?_
        refine r_eql rfl rfl rfl ?_
        refine LW.want rfl rfl hg23_7 ?_
        refine r_move rfl ?_
        refine LW.known (t := 109) (c := true) rfl (by first | rfl | (simp only [decide_eq_true_eq, decide_eq_false_iff_not, Bool.and_eq_true, Bool.or_eq_true, Bool.and_eq_false_iff, Bool.or_eq_false_iff, Bool.not_eq_true', Bool.not_eq_false', beq_iff_eq, bne_iff_ne]; omega) | simp_all) (fun hg23_10 => ?_)
        refine LW.want rfl rfl hg23_10 ?_
        refine r_move rfl ?_
        refine LW.want rfl rfl hg23_10 ?_
        refine r_eql rfl rfl rfl ?_
        refine LW.want rfl rfl hg23_7 ?_
        refine r_pickT rfl rfl hg23_10 ?_
        refine r_pickF rfl rfl hg23_7 ?_
        refine r_move rfl ?_
        refine LW.known (t := 114) (c := true) rfl (by simp [hz]) (fun hg23_15 => ?_)
        refine LW.want rfl rfl hg23_15 ?_
        refine r_move rfl ?_
        refine LW.want rfl rfl hg23_15 ?_
        refine r_eql rfl rfl rfl ?_
        refine r_pickT rfl rfl hg23_15 ?_
        refine r_move rfl ?_
        refine LW.known (t := 118) (c := true) rfl (by first | rfl | (simp only [decide_eq_true_eq, decide_eq_false_iff_not, Bool.and_eq_true, Bool.or_eq_true, Bool.and_eq_false_iff, Bool.or_eq_false_iff, Bool.not_eq_true', Bool.not_eq_false', beq_iff_eq, bne_iff_ne]; omega) | simp_all) (fun hg23_19 => ?_)
        refine LW.want rfl rfl hg23_19 ?_
        refine r_move rfl ?_
        refine LW.want rfl rfl hg23_19 ?_
        refine r_eql rfl rfl rfl ?_
        refine r_pickT rfl rfl hg23_19 ?_
        refine r_move rfl ?_
        refine LW.known (t := 122) (c := true) rfl (by first | rfl | (simp only [decide_eq_true_eq, decide_eq_false_iff_not, Bool.and_eq_true, Bool.or_eq_true, Bool.and_eq_false_iff, Bool.or_eq_false_iff, Bool.not_eq_true', Bool.not_eq_false', beq_iff_eq, bne_iff_ne]; omega) | simp_all) (fun hg23_23 => ?_)
        refine LW.want rfl rfl hg23_23 ?_
        refine r_move rfl ?_
        refine LW.want rfl rfl hg23_23 ?_
        refine r_call rfl Try.call53 (by simp only [List.map_cons, List.map_nil, List.map_toArray, List.toList_toArray, upd_get, ev, Nat.reduceEqDiff, ↓reduceIte] <;> rfl) (DoneA_c _ (SH.prop H (by (repeat first | exact At.here | apply At.there); done))) ?_
        rintro _ _ ⟨rfl, rfl⟩
        refine ⟨_, rfl, ?_⟩
        refine LW.want rfl rfl hg23_23 ?_
        refine r_move rfl ?_
        refine LW.want rfl rfl hg23_23 ?_
        refine r_eql rfl rfl rfl ?_
        refine r_pickT rfl rfl hg23_23 ?_
        refine r_move rfl ?_
        refine LW.known (t := 128) (c := true) rfl (by simp) (fun hg23_29 => ?_)
        refine LW.want rfl rfl hg23_29 ?_
        refine r_call rfl Try.call32 (by simp only [List.map_cons, List.map_nil, List.map_toArray, List.toList_toArray, upd_get, ev, Nat.reduceEqDiff, ↓reduceIte] <;> rfl) (awake14_c _) ?_
        rintro _ w23_29 ⟨rfl, X⟩
        refine ⟨_, rfl, ?_⟩
        replace H := SH.same H X
        clear X
        refine r_pickT rfl rfl hg23_29 ?_
        refine r_assign rfl ?_
        refine LW.nil ?_
        refine thenE_norm ?_
        refine cut (K := K26) [6] (fun σ => ?_)
        simp only [setL, keepE, upd_get, ev, Nat.reduceEqDiff, ↓reduceIte]
        refine h26 _ _ ?_; clear h26; try clear K26
        refine CW.ret (ret1 Try.results14 (by simp only [upd_get, ev, Nat.reduceEqDiff, ↓reduceIte]; rfl) ?_)
        exact ⟨rfl, H.ext⟩
      · refine CW.region ?_
        refine r_move rfl ?_
        refine r_move rfl ?_
        refine r_move rfl ?_
        refine r_call rfl Try.call16 (by simp only [List.map_cons, List.map_nil, List.map_toArray, List.toList_toArray, upd_get, ev, Nat.reduceEqDiff, ↓reduceIte] <;> rfl) (BatchN_c _ (SH.rsR H (i := 1) rfl) hl) ?_
        rintro _ w19_3 ⟨v19_3, g19_3, rfl, hm19_3, hs19_3, K⟩
        refine ⟨_, rfl, ?_⟩
        replace H := SH.call H K
        clear K
        try dsimp only [replC, List.cons_append, List.nil_append, List.append_nil] at H
        refine r_call rfl Try.call29 (by simp only [List.map_cons, List.map_nil, List.map_toArray, List.toList_toArray, upd_get, ev, Nat.reduceEqDiff, ↓reduceIte] <;> rfl) (Accept_c _ _ ⟨_, _, _, _, _⟩ _ (SH.prop H (i := 2) rfl) (SH.rsO H (i := 8) rfl) (SH.apartPO H (i := 2) (j := 8) rfl rfl (by decide)) hs19_3 (by omega)) ?_
        rintro _ w19_4 ⟨FN19_4, rfl, K⟩
        refine ⟨_, rfl, ?_⟩
        replace H := SH.updP H (i := 2) rfl K
        clear K
        try dsimp only [replC, List.cons_append, List.nil_append, List.append_nil] at H
        rw [acc_old (s := ⟨s.ballot, d, s.l.filter fun m => !decide (m.slot ≤ d)⟩) (m := vmB d 1 ⟨(batN ns).fill, (batN ns).view, (batN ns).tip, (batN ns).time, v19_3⟩ (batN ns).rs) ⟨highM_t.2 ⟨show 0 ≤ (1 : Int) by decide, show (1 : Int) ≤ _ by decide⟩, show 1 ≤ d by omega, show d ≤ _ by omega, hm19_3⟩ (.inr (Int.le_refl d))] at H ⊢
        dsimp only at H ⊢
        refine r_assign rfl ?_
        refine LW.nil ?_
        refine thenE_norm (h22 _ _ ?_); clear h22; try clear K22
        refine CW.seq (fun K27 h27 => ?_)
        refine CW.region ?_
        refine r_move rfl ?_
        refine r_move rfl ?_
        refine r_add rfl rfl rfl (wr_i64 (by omega) (by omega)) ?_
        refine r_move rfl ?_
        refine r_call rfl Try.call16 (by simp only [List.map_cons, List.map_nil, List.map_toArray, List.toList_toArray, upd_get, ev, Nat.reduceEqDiff, ↓reduceIte] <;> rfl) (BatchN_c _ (SH.rsR H (i := 1) rfl) hl) ?_
        rintro _ w20_4 ⟨v20_4, g20_4, rfl, hm20_4, hs20_4, K⟩
        refine ⟨_, rfl, ?_⟩
        replace H := SH.call H K
        clear K
        try dsimp only [replC, List.cons_append, List.nil_append, List.append_nil] at H
        refine r_call rfl Try.call29 (by simp only [List.map_cons, List.map_nil, List.map_toArray, List.toList_toArray, upd_get, ev, Nat.reduceEqDiff, ↓reduceIte] <;> rfl) (Accept_c _ _ ⟨_, _, _, _, _⟩ _ (SH.prop H (i := 2) rfl) (SH.rsO H (i := 9) rfl) (SH.apartPO H (i := 2) (j := 9) rfl rfl (by decide)) hs20_4 (by omega)) ?_
        rintro _ w20_5 ⟨FN20_5, rfl, K⟩
        refine ⟨_, rfl, ?_⟩
        replace H := SH.updP H (i := 2) rfl K
        clear K
        try dsimp only [replC, List.cons_append, List.nil_append, List.append_nil] at H
        rw [acc_put (s := ⟨s.ballot, d, s.l.filter fun m => !decide (m.slot ≤ d)⟩) (m := vmB (d + 9) 1 ⟨(batN ns).fill, (batN ns).view, (batN ns).tip, (batN ns).time, v20_4⟩ (batN ns).rs) ⟨highM_t.2 ⟨show 0 ≤ (1 : Int) by decide, show (1 : Int) ≤ _ by decide⟩, show 1 ≤ d + 9 by omega, show d + 9 ≤ _ by omega, hm20_4⟩ (show ¬ (1 < s.ballot ∨ d + 9 ≤ d) by omega) (show ¬ 9 < d + 9 - d by omega)] at H ⊢
        dsimp only [vmB_b] at H ⊢
        generalize putK Vm.slot (s.l.filter fun m => !decide (m.slot ≤ d)) (vmB (d + 9) 1 ⟨(batN ns).fill, (batN ns).view, (batN ns).tip, (batN ns).time, v20_4⟩ (batN ns).rs) = L2 at *
        refine r_assign rfl ?_
        refine LW.nil ?_
        refine thenE_norm ?_
        refine cut (K := K27) [2, 7, 10, 13, 14] (fun σ => ?_)
        simp only [setL, keepE, upd_get, ev, Nat.reduceEqDiff, ↓reduceIte]
        refine h27 _ _ ?_; clear h27; try clear K27
        refine CW.seq (fun K28 h28 => ?_)
        refine CW.region ?_
        refine r_move rfl ?_
        refine r_move rfl ?_
        refine r_add rfl rfl rfl (wr_i64 (by omega) (by omega)) ?_
        refine r_move rfl ?_
        refine r_call rfl Try.call16 (by simp only [List.map_cons, List.map_nil, List.map_toArray, List.toList_toArray, upd_get, ev, Nat.reduceEqDiff, ↓reduceIte] <;> rfl) (BatchN_c _ (SH.rsR H (i := 1) rfl) hl) ?_
        rintro _ w21_4 ⟨v21_4, g21_4, rfl, hm21_4, hs21_4, K⟩
        refine ⟨_, rfl, ?_⟩
        replace H := SH.call H K
        clear K
        try dsimp only [replC, List.cons_append, List.nil_append, List.append_nil] at H
        refine r_call rfl Try.call29 (by simp only [List.map_cons, List.map_nil, List.map_toArray, List.toList_toArray, upd_get, ev, Nat.reduceEqDiff, ↓reduceIte] <;> rfl) (Accept_c _ _ ⟨_, _, _, _, _⟩ _ (SH.prop H (i := 2) rfl) (SH.rsO H (i := 10) rfl) (SH.apartPO H (i := 2) (j := 10) rfl rfl (by decide)) hs21_4 (by omega)) ?_
        rintro _ w21_5 ⟨FN21_5, rfl, K⟩
        refine ⟨_, rfl, ?_⟩
        replace H := SH.updP H (i := 2) rfl K
        clear K
        try dsimp only [replC, List.cons_append, List.nil_append, List.append_nil] at H
        rw [acc_full (s := ⟨_, d, L2⟩) (m := vmB (d + 10) 1 ⟨(batN ns).fill, (batN ns).view, (batN ns).tip, (batN ns).time, v21_4⟩ (batN ns).rs) ⟨highM_t.2 ⟨show 0 ≤ (1 : Int) by decide, show (1 : Int) ≤ _ by decide⟩, show 1 ≤ d + 10 by omega, show d + 10 ≤ _ by omega, hm21_4⟩ (show ¬ ((1 : Int) < (1 : Int) ∨ d + 10 ≤ d) by omega) (show 9 < d + 10 - d by omega)] at H ⊢
        dsimp only at H ⊢
        refine r_assign rfl ?_
        refine LW.nil ?_
        refine thenE_norm (h28 _ _ ?_); clear h28; try clear K28
        refine CW.seq (fun K29 h29 => ?_)
        refine CW.region ?_
        refine r_move rfl ?_
        refine r_move rfl ?_
        refine r_sub rfl rfl rfl (wr_i64 (by omega) (by omega)) ?_
        refine r_call rfl Try.call51 (by simp only [List.map_cons, List.map_nil, List.map_toArray, List.toList_toArray, upd_get, ev, Nat.reduceEqDiff, ↓reduceIte] <;> rfl) (TrimA_c (d - 1) _ (SH.prop H (i := 2) rfl)) ?_
        rintro _ w22_3 ⟨FN22_3, rfl, K⟩
        refine ⟨_, rfl, ?_⟩
        replace H := SH.updP H (i := 2) rfl K
        clear K
        try dsimp only [replC, List.cons_append, List.nil_append, List.append_nil] at H
        rw [trim_no (s := ⟨_, d, L2⟩) (.inl (show d - 1 ≤ d by omega))] at H
        refine LW.nil ?_
        refine thenE_norm ?_
        refine cut (K := K29) [7, 10, 13, 14, 15] (fun σ => ?_)
        simp only [setL, keepE, upd_get, ev, Nat.reduceEqDiff, ↓reduceIte]
        refine h29 _ _ ?_; clear h29; try clear K29
        refine CW.seq (fun K30 h30 => ?_)
        refine CW.region ?_
        refine r_move rfl ?_
        refine r_eql rfl rfl rfl ?_
        refine r_move rfl ?_
        refine LW.known (t := 102) (c := true) rfl (by first | rfl | (simp only [decide_eq_true_eq, decide_eq_false_iff_not, Bool.and_eq_true, Bool.or_eq_true, Bool.and_eq_false_iff, Bool.or_eq_false_iff, Bool.not_eq_true', Bool.not_eq_false', beq_iff_eq, bne_iff_ne]; omega) | simp_all) (fun hg23_3 => ?_)
        refine LW.want rfl rfl hg23_3 ?_
        refine r_move rfl ?_
        refine LW.want rfl rfl hg23_3 ?_
        refine r_gtr rfl rfl rfl ?_
        refine r_pickT rfl rfl hg23_3 ?_
        refine r_move rfl ?_
        refine LW.known (t := 106) (c := true) rfl (by simp; omega) (fun hg23_7 => ?_)
        refine LW.skip rfl (fun _ e => by cases e; decide) rfl hg23_7 ?_
        refine LW.skip rfl (fun _ e => by cases e; decide) rfl hg23_7 ?_
        refine LW.skip rfl (fun _ e => by cases e; decide) rfl hg23_7 ?_
        refine LW.skipU rfl (fun _ e => by cases e; decide) rfl ?_
        refine LW.skipU rfl (fun _ e => by cases e; decide) rfl ?_
        refine LW.skip rfl (fun _ e => by cases e; decide) rfl hg23_7 ?_
        refine r_pickT rfl rfl hg23_7 ?_
        refine r_move rfl ?_
        refine LW.known (t := 114) (c := true) rfl (by first | rfl | (simp only [decide_eq_true_eq, decide_eq_false_iff_not, Bool.and_eq_true, Bool.or_eq_true, Bool.and_eq_false_iff, Bool.or_eq_false_iff, Bool.not_eq_true', Bool.not_eq_false', beq_iff_eq, bne_iff_ne]; omega) | simp_all) (fun hg23_15 => ?_)
        refine LW.want rfl rfl hg23_15 ?_
        refine r_move rfl ?_
        refine LW.want rfl rfl hg23_15 ?_
        refine r_eql rfl rfl rfl ?_
        refine r_pickT rfl rfl hg23_15 ?_
        refine r_move rfl ?_
        refine LW.known (t := 118) (c := true) rfl (by first | rfl | (simp only [decide_eq_true_eq, decide_eq_false_iff_not, Bool.and_eq_true, Bool.or_eq_true, Bool.and_eq_false_iff, Bool.or_eq_false_iff, Bool.not_eq_true', Bool.not_eq_false', beq_iff_eq, bne_iff_ne]; omega) | simp_all) (fun hg23_19 => ?_)
        refine LW.want rfl rfl hg23_19 ?_
        refine r_move rfl ?_
        refine LW.want rfl rfl hg23_19 ?_
        refine r_eql rfl rfl rfl ?_
        refine r_pickT rfl rfl hg23_19 ?_
        refine r_move rfl ?_
        refine LW.known (t := 122) (c := true) rfl (by first | rfl | (simp only [decide_eq_true_eq, decide_eq_false_iff_not, Bool.and_eq_true, Bool.or_eq_true, Bool.and_eq_false_iff, Bool.or_eq_false_iff, Bool.not_eq_true', Bool.not_eq_false', beq_iff_eq, bne_iff_ne]; omega) | simp_all) (fun hg23_23 => ?_)
        refine LW.want rfl rfl hg23_23 ?_
        refine r_move rfl ?_
        refine LW.want rfl rfl hg23_23 ?_
        refine r_call rfl Try.call53 (by simp only [List.map_cons, List.map_nil, List.map_toArray, List.toList_toArray, upd_get, ev, Nat.reduceEqDiff, ↓reduceIte] <;> rfl) (DoneA_c _ (SH.prop H (by (repeat first | exact At.here | apply At.there); done))) ?_
        rintro _ _ ⟨rfl, rfl⟩
        refine ⟨_, rfl, ?_⟩
        refine LW.want rfl rfl hg23_23 ?_
        refine r_move rfl ?_
        refine LW.want rfl rfl hg23_23 ?_
        refine r_eql rfl rfl rfl ?_
        refine r_pickT rfl rfl hg23_23 ?_
        refine r_move rfl ?_
        refine LW.known (t := 128) (c := true) rfl (by simp) (fun hg23_29 => ?_)
        refine LW.want rfl rfl hg23_29 ?_
        refine r_call rfl Try.call32 (by simp only [List.map_cons, List.map_nil, List.map_toArray, List.toList_toArray, upd_get, ev, Nat.reduceEqDiff, ↓reduceIte] <;> rfl) (awake14_c _) ?_
        rintro _ w23_29 ⟨rfl, X⟩
        refine ⟨_, rfl, ?_⟩
        replace H := SH.same H X
        clear X
        refine r_pickT rfl rfl hg23_29 ?_
        refine r_assign rfl ?_
        refine LW.nil ?_
        refine thenE_norm ?_
        refine cut (K := K30) [6] (fun σ => ?_)
        simp only [setL, keepE, upd_get, ev, Nat.reduceEqDiff, ↓reduceIte]
        refine h30 _ _ ?_; clear h30; try clear K30
        refine CW.ret (ret1 Try.results14 (by simp only [upd_get, ev, Nat.reduceEqDiff, ↓reduceIte]; rfl) ?_)
        exact ⟨rfl, H.ext⟩
end Go.Proofs.Ytalieccfdmokmaa
