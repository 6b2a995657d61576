/-
  The walks of layer 9's laws, the third part: MemoOrder.
-/
import Derived.Test.YtlfbofnfhhddbaaVMmK
import Derived.Test.YtlfbofnfhhddbaaVMmI
namespace Go.Proofs.Ytlfbofnfhhddbaa
set_option linter.unusedSimpArgs false
set_option linter.unusedVariables false
set_option maxRecDepth 20000
open Go.V Go.RowKit Go.ChangeShapes Go.WideShapes

set_option maxHeartbeats 16000000 in
theorem MemoOrder_c {F : Nat → Prop} {v : Value} {nss : List Sv} (t : Int) (w : World) (hv : Rs F w v nss) (hg : ∀ a ∈ nss, ∃ xs : List UInt8, Rs (Old w) w a.v xs) (h0 : 0 ≤ t) (h1 : t < 256) :
    Calls Try.prog 14 #[v, .int .u8 t] w fun e w' => e = .returned (.bool true) ∧ Ext0 w w' := by
  have H := (SH.start w).arg hv
  have h63 := hv.len63
  refine calls_of_CW Try.func14 rfl Try.ntmps14 (Nat.le_of_ble_eq_true rfl) ?_
  simp only [argE, argFrom, Nat.reduceAdd]
  refine CW.seq (fun K1 h1 => ?_)
  refine CW.region ?_
  refine r_assign rfl ?_
  refine LW.nil ?_
  refine thenE_norm (h1 _ _ ?_); clear h1; try clear K1
  refine CW.seq (fun K2 h2 => ?_)
  refine CW.region ?_
  refine r_assign rfl ?_
  refine LW.nil ?_
  refine thenE_norm (h2 _ _ ?_); clear h2; try clear K2
  refine CW.seq (fun K3 h3 => ?_)
  refine CW.seq (fun K4 h4 => ?_)
  refine CW.region ?_
  refine r_assign rfl ?_
  refine LW.nil ?_
  refine thenE_norm (h4 _ _ ?_); clear h4; try clear K4
  refine CW.block ?_
  refine CW.loopR [0, 1] [5, 6] (fun m vs w' => ∃ (i : Nat) (u : Value) (al : List Ans) (ms : List Mm) (g : Option Nat) (FP : Nat → Prop), vs = [u, .int .i64 i] ∧ i ≤ nss.length ∧ m = nss.length - i ∧ i ≤ 8 ∧ ms.length = i ∧ Apt ms ∧ (∀ m ∈ ms, m.client < i) ∧ SH Non Any w w' [.R (Old w) v nss, .O 66 u al g, .P FP (MmsA FP (al.map memA) ms)]) (nss.length) ?_ ?_
  · exact ⟨0, .slice none 0 0, [], [], none, _, rfl, by omega, by omega, by omega, rfl, ⟨by simp, List.Pairwise.nil⟩, by simp, addMs (H.addO (α := Ans) 66)⟩
  try clear H
  rintro n1 vs1 wL1 σ ⟨i, u, al, ms, g, FP, rfl, hi, rfl, hi8, hml, hap, hcl, H⟩
  simp only [setL, keepE, upd_get, ev, Nat.reduceEqDiff, ↓reduceIte]
  have l1 : al.length = ms.length := by rw [← All2.len (SH.prop H (i := 2) rfl), List.length_map]
  refine CW.seq (fun K5 h5 => ?_)
  refine CW.seq (fun K6 h6 => ?_)
  refine CW.region ?_
  refine r_move rfl ?_
  refine r_move rfl ?_
  first
    | refine r_lenV rfl Try.underlying86 (by simp only [upd_get, ev, Nat.reduceEqDiff, ↓reduceIte] <;> rfl) (by first | assumption | exact SH.rsR H (by (repeat first | exact At.here | apply At.there); done) | exact SH.rsO H (by (repeat first | exact At.here | apply At.there); done) | exact (Rs.nil : Rs Non _ _ _)) ?_
    | refine r_len rfl Try.underlying86 rfl ?_
  refine r_lss rfl rfl rfl ?_
  refine r_move rfl ?_
  refine' LW.grpAnd (n := 3) (ts := [0, 1, 5, 6]) (d := 17) (tj := 14) rfl (fun hg3_5 => ?_) (fun hg3_5 => ?_) (fun σ => ?_)
  rotate_left
  · simp only [List.take_succ_cons, List.take_zero]
    have hg3_5P := hg3_5
    try simp only [decide_eq_true_eq, decide_eq_false_iff_not, Bool.and_eq_true, Bool.or_eq_true, Bool.and_eq_false_iff, Bool.or_eq_false_iff, Bool.not_eq_true', Bool.not_eq_false', beq_iff_eq, bne_iff_ne] at hg3_5P
    refine LW.want rfl rfl hg3_5 ?_
    refine r_move rfl ?_
    refine LW.want rfl rfl hg3_5 ?_
    refine r_lss rfl rfl rfl ?_
    refine r_pickT rfl rfl hg3_5 ?_
    refine LW.nil (thenE_norm ⟨rfl, rfl, rfl⟩)
  · simp only [List.take_succ_cons, List.take_zero]
    refine LW.skip rfl (fun _ e => by cases e; decide) rfl hg3_5 ?_
    refine LW.skip rfl (fun _ e => by cases e; decide) rfl hg3_5 ?_
    refine r_pickF rfl rfl hg3_5 ?_
    refine LW.nil (thenE_norm ⟨rfl, rfl, rfl⟩)
  simp only [setL, keepE, upd_get, ev, Nat.reduceEqDiff, ↓reduceIte]; simp only [List.drop_succ_cons, List.drop_zero]
  refine LW.nil ?_
  refine thenE_norm (h6 _ _ ?_); clear h6; try clear K6
  refine CW.cond rfl (fun hc1 => ?_) (fun hc1 => ?_)
  · try simp only [decide_eq_true_eq, decide_eq_false_iff_not, Bool.and_eq_true, Bool.or_eq_true, Bool.and_eq_false_iff, Bool.or_eq_false_iff, Bool.not_eq_true', Bool.not_eq_false', beq_iff_eq, bne_iff_ne, ne_eq, Decidable.not_not] at hc1
    refine CW.skip ?_
    refine thenE_norm (h5 _ _ ?_); clear h5; try clear K5
    refine CW.seq (fun K7 h7 => ?_)
    refine CW.block ?_
    obtain ⟨x, hx⟩ := get_of_lt (show i < nss.length by omega)
    obtain ⟨xs, hxs⟩ := hg x (List.mem_of_getElem? hx)
    obtain ⟨x1⟩ := x
    dsimp only at hxs
    refine CW.region ?_
    refine r_move rfl ?_
    refine r_move rfl ?_
    refine r_convI rfl Try.underlying3 Try.underlying5 rfl (wr_u8 (by omega) (by omega)) ?_
    refine r_move rfl ?_
    refine r_mul rfl rfl rfl (wr_i64 (by omega) (by omega)) ?_
    refine r_convI rfl Try.underlying3 Try.underlying5 rfl (wr_u8 (by omega) (by omega)) ?_
    refine r_move rfl ?_
    refine r_move rfl ?_
    refine r_indexAddrV rfl Try.underlying86 (by simp only [upd_get, ev, Nat.reduceEqDiff, ↓reduceIte] <;> rfl) rfl (by first | assumption | exact SH.rsR H (by (repeat first | exact At.here | apply At.there); done) | exact SH.rsO H (by (repeat first | exact At.here | apply At.there); done) | exact (Rs.nil : Rs Non _ _ _)) (by exact Try.sizeOf43) (by omega) (by omega) ?_
    refine r_load rfl Try.isAgg43 rfl (by first | exact Rs.cell (by first | assumption | exact SH.rsR H (by (repeat first | exact At.here | apply At.there); done) | exact SH.rsO H (by (repeat first | exact At.here | apply At.there); done) | exact (Rs.nil : Rs Non _ _ _)) (by assumption) (by rfl) | exact Rs.cell0 (by first | assumption | exact SH.rsR H (by (repeat first | exact At.here | apply At.there); done) | exact SH.rsO H (by (repeat first | exact At.here | apply At.there); done) | exact (Rs.nil : Rs Non _ _ _)) (by assumption) (by rfl) | assumption) ?_
    refine r_call rfl Try.call62 (by simp only [List.map_cons, List.map_nil, List.map_toArray, List.toList_toArray, upd_get, ev, Nat.reduceEqDiff, ↓reduceIte] <;> rfl) (Answer_c _ _ _ (hxs.up0 (SH.ext H)) (by omega) (by omega) (by omega) (by omega)) ?_
    rintro _ w5_10 ⟨c5_10, s5_10, a5_10, v5_10, gs5_10, g5_10, rfl, hm5_10, hsm5_10, K⟩
    refine ⟨_, rfl, ?_⟩
    replace H := SH.call H K
    clear K
    try dsimp only [replC, List.cons_append, List.nil_append, List.append_nil] at H
    have hmay := answer_may (c := (i : Int)) (s := 7 * (i : Int)) (u := v5_10) hm5_10 (by omega) (by omega)
    have e8 : (i : Int) % 8 = i := by omega
    refine r_buildSliceA (vs := [_]) rfl Try.underlying87 Try.sizeOf66 Try.zeroValue66 rfl rfl rfl rfl (by simp only [List.map_cons, List.map_nil, List.toList_toArray, numbered, Nat.reduceAdd, upd_get, ev, Nat.reduceEqDiff, ↓reduceIte] <;> rfl) rfl (by intro v hv; simp only [List.mem_cons, List.not_mem_nil, or_false] at hv; rcases hv with rfl <;> rfl) ?_
    intro b5_11 w5_11 hb5_11 hs5_11 hE5_11 hB5_11
    replace H := SH.call H (SH.fromB hE5_11 hb5_11 hs5_11 hB5_11)
    clear hb5_11 hs5_11 hE5_11 hB5_11
    try dsimp only [replC, List.cons_append, List.nil_append, List.append_nil, agg, cellsL, Value.cells, List.toList_toArray, List.set_cons_zero, List.set_cons_succ, spliceL, List.take_succ_cons, List.take_zero, List.drop_succ_cons, List.drop_zero, List.length_cons, List.length_nil, Nat.reduceAdd, Row.cells, Gr.L, Rep.L, Mem.L, Ans.L, Act9.L] at H
    replace H := SH.row (b := b5_11) (xs := ([⟨(i : Int) % 8, 1 + 7 * (i : Int) % 40, ⟨c5_10, s5_10, a5_10, v5_10⟩⟩] : List Ans)) (n := 1) (cap := 1) H (by (repeat first | exact At.here | apply At.there); done) (by simp only [flat, List.flatMap_cons, List.flatMap_nil, cellsL, agg, List.append_nil, List.cons_append, List.nil_append, List.toList_toArray, Row.cells, Gr.L, Rep.L, Mem.L, Ans.L, Act9.L] <;> rfl) (by intro x hx; first | rfl | (simp at hx; done) | (simp only [List.mem_cons, List.not_mem_nil, or_false] at hx; rcases hx with rfl <;> first | rfl | exact (by first | rfl | assumption | exact Rs.oneC (by first | assumption | exact SH.rsR H (by (repeat first | exact At.here | apply At.there); done) | exact SH.rsO H (by (repeat first | exact At.here | apply At.there); done) | exact (Rs.nil : Rs Non _ _ _)) | (simp only [List.all_cons, List.all_nil, Bool.and_true, Bool.and_eq_true, Row.cells, Gr.L, Rep.L, Mem.L, Ans.L, Act9.L]; (repeat' constructor) <;> first | rfl | assumption | exact Rs.oneC (by first | assumption | exact SH.rsR H (by (repeat first | exact At.here | apply At.there); done) | exact SH.rsO H (by (repeat first | exact At.here | apply At.there); done) | exact (Rs.nil : Rs Non _ _ _)))))) (by rfl) rfl (by decide)
    try dsimp only [replC, List.cons_append, List.nil_append, List.append_nil, agg, cellsL, Value.cells, List.toList_toArray, List.set_cons_zero, List.set_cons_succ, spliceL, List.take_succ_cons, List.take_zero, List.drop_succ_cons, List.drop_zero, List.length_cons, List.length_nil, Nat.reduceAdd, Row.cells, Gr.L, Rep.L, Mem.L, Ans.L, Act9.L] at H
    refine s_append H rfl Try.underlying87 Try.underlying87 Try.type66 rfl (by simp only [upd_get, ev, Nat.reduceEqDiff, ↓reduceIte] <;> rfl) (by simp only [upd_get, ev, Nat.reduceEqDiff, ↓reduceIte] <;> rfl) (by (repeat first | exact At.here | apply At.there); done) (by first | assumption | exact SH.rsR H (by (repeat first | exact At.here | apply At.there); done) | exact SH.rsO H (by (repeat first | exact At.here | apply At.there); done) | exact (Rs.nil : Rs Non _ _ _)) (by rfl) (by rfl) (by first | omega | (simp only [Try.t66, List.length_append, List.length_cons, List.length_nil, List.length_map, maxLen]; omega) | (simp [Try.t66, maxLen]; omega)) (by first | omega | (simp only [Try.t66, List.length_append, List.length_cons, List.length_nil, List.length_map, maxLen]; omega) | (simp [Try.t66, maxLen]; omega)) ?_
    clear H
    intro v5_12 w5_12 g5_12 H hN5_12
    try dsimp only [replC, List.cons_append, List.nil_append, List.append_nil] at H
    refine r_assign rfl ?_
    refine LW.nil ?_
    refine blockE_norm ?_
    refine thenE_norm (h7 _ _ ?_); clear h7; try clear K7
    refine CW.region ?_
    refine r_move rfl ?_
    refine r_add rfl rfl rfl (wr_i64 (by omega) (by omega)) ?_
    refine r_assign rfl ?_
    refine LW.nil ?_
    refine thenE_norm ⟨rfl, ?_⟩
    have H2 := SH.absorb (A' := MmsA _ ((al ++ [(⟨(i : Int) % 8, 1 + 7 * (i : Int) % 40, ⟨c5_10, s5_10, a5_10, v5_10⟩⟩ : Ans)]).map memA) (ms ++ [mmA ⟨(i : Int) % 8, 1 + 7 * (i : Int) % 40, ⟨c5_10, s5_10, a5_10, v5_10⟩⟩ gs5_10])) (SH.sel H [2, 3, 0, 1] (by decide) rfl) trivial mms_st (fun h k => by
      rw [List.map_append]
      exact All2.snoc (MmsA.mono h fun b hb => .inl hb) (memA_r ((Ow.rs k).mono fun b _ hb => .inr hb)))
    refine ⟨nss.length - (i + 1), by omega, i + 1, _, _, _, _, _, rfl, by omega, rfl, by omega, by rw [List.length_append, List.length_singleton, hml], ⟨fun m hm => ?_, ?_⟩, fun m hm => ?_, SH.sel H2 [1, 2, 0] (by decide) rfl⟩
    · rcases List.mem_append.1 hm with hm | hm
      · exact hap.1 m hm
      · rw [List.mem_singleton] at hm; subst hm; exact hmay
    · rw [List.pairwise_append]
      refine ⟨hap.2, List.pairwise_singleton _ _, fun x hx y hy => ?_⟩
      rw [List.mem_singleton] at hy; subst hy
      have := hcl x hx
      show x.client ≠ (i : Int) % 8
      omega
    · rcases List.mem_append.1 hm with hm | hm
      · have := hcl m hm; omega
      · rw [List.mem_singleton] at hm; subst hm
        show (i : Int) % 8 < ((i + 1 : Nat) : Int)
        omega
  · try simp only [decide_eq_true_eq, decide_eq_false_iff_not, Bool.and_eq_true, Bool.or_eq_true, Bool.and_eq_false_iff, Bool.or_eq_false_iff, Bool.not_eq_true', Bool.not_eq_false', beq_iff_eq, bne_iff_ne, ne_eq, Decidable.not_not] at hc1
    refine CW.exit (thenE_exit (thenE_exit (blockE_hit ?_)))
    refine thenE_norm (h3 _ _ ?_); clear h3; try clear K3
    refine CW.seq (fun K8 h8 => ?_)
    refine CW.region ?_
    refine r_assign rfl ?_
    refine r_assign rfl ?_
    refine LW.nil ?_
    refine thenE_norm (h8 _ _ ?_); clear h8; try clear K8
    refine CW.seq (fun K9 h9 => ?_)
    refine CW.seq (fun K10 h10 => ?_)
    refine CW.region ?_
    refine r_assign rfl ?_
    refine LW.nil ?_
    refine thenE_norm (h10 _ _ ?_); clear h10; try clear K10
    refine CW.block ?_
    refine CW.loopR [1, 5] [7, 8, 9] (fun m vs w' => ∃ (j : Nat) (ua ub : Value) (ra rb : List Mem) (ga gb : Option Nat) (FA FB : Nat → Prop), vs = [ua, ub, .int .i64 j] ∧ j ≤ al.length ∧ m = al.length - j ∧ SH Non Any w w' [.R (Old w) v nss, .O 66 u al g, .P FP (MmsA FP (al.map memA) ms), .O 80 ua ra ga, .P FA (MmsA FA ra (keepL (ms.take j))), .O 80 ub rb gb, .P FB (MmsA FB rb (keepL (turnL ms t.toNat j)))]) (al.length) ?_ ?_
    · exact ⟨0, .slice none 0 0, .slice none 0 0, [], [], none, none, _, _, rfl, by omega, by omega, by rw [List.take_zero]; exact addMs ((addMs (H.addO (α := Mem) 80)).addO (α := Mem) 80)⟩
    try clear H
    rintro n2 vs2 wL2 σ ⟨j, ua, ub, ra, rb, ga, gb, FA, FB, rfl, hj, rfl, H⟩
    simp only [setL, keepE, upd_get, ev, Nat.reduceEqDiff, ↓reduceIte]
    obtain ⟨a1, a2, a3⟩ := keepL_ok (hap.take j)
    have l2 := All2.len (SH.prop H (i := 4) rfl)
    have l3 := All2.len (SH.prop H (i := 6) rfl)
    refine CW.seq (fun K11 h11 => ?_)
    refine CW.seq (fun K12 h12 => ?_)
    refine CW.region ?_
    refine r_move rfl ?_
    refine r_move rfl ?_
    first
      | refine r_lenV rfl Try.underlying87 (by simp only [upd_get, ev, Nat.reduceEqDiff, ↓reduceIte] <;> rfl) (by first | assumption | exact SH.rsR H (by (repeat first | exact At.here | apply At.there); done) | exact SH.rsO H (by (repeat first | exact At.here | apply At.there); done) | exact (Rs.nil : Rs Non _ _ _)) ?_
      | refine r_len rfl Try.underlying87 rfl ?_
    refine r_lss rfl rfl rfl ?_
    refine LW.nil ?_
    refine thenE_norm (h12 _ _ ?_); clear h12; try clear K12
    refine CW.cond rfl (fun hc2 => ?_) (fun hc2 => ?_)
    · try simp only [decide_eq_true_eq, decide_eq_false_iff_not, Bool.and_eq_true, Bool.or_eq_true, Bool.and_eq_false_iff, Bool.or_eq_false_iff, Bool.not_eq_true', Bool.not_eq_false', beq_iff_eq, bne_iff_ne, ne_eq, Decidable.not_not] at hc2
      refine CW.skip ?_
      refine thenE_norm (h11 _ _ ?_); clear h11; try clear K11
      refine CW.seq (fun K13 h13 => ?_)
      refine CW.block ?_
      refine CW.seq (fun K14 h14 => ?_)
      have h0l : 0 < ms.length := by omega
      obtain ⟨b1, b2, b3⟩ := keepL_ok (turn_apt t.toNat hap h0l j (by omega))
      rw [turnL_len] at b2
      rw [List.length_take] at a2
      obtain ⟨m, hm⟩ := get_of_lt (show j < ms.length by omega)
      obtain ⟨q, hq, hqm⟩ := All2.get' (SH.prop H (i := 2) rfl) hm
      rw [List.getElem?_map, Option.map_eq_some_iff] at hq
      obtain ⟨y, hy, rfl⟩ := hq
      obtain ⟨y1, y2, ⟨y3, y4, y5, y6⟩⟩ := y
      obtain ⟨m1, m2, m3, m4, m5, m6⟩ := m
      obtain ⟨e1, e2, e3, e4, e5, e6⟩ := hqm
      dsimp only [memA] at e1 e2 e3 e4 e5 e6
      subst e1 e2 e3 e4 e5
      have hk0 := Int.emod_nonneg ((j : Int) + t) (show ((al.length : Nat) : Int) ≠ 0 from by omega)
      have hk1 := Int.emod_lt_of_pos ((j : Int) + t) (show (0 : Int) < (al.length : Nat) from by omega)
      have hkn : (((j : Int) + t) % (al.length : Nat)).toNat = (j + t.toNat) % ms.length := by
        have : ((j : Int) + t) % (al.length : Nat) = (((j + t.toNat) % ms.length : Nat) : Int) := by
          rw [l1, Int.natCast_emod]; congr 1; omega
        rw [this]; rfl
      have hz := turnN_get (t := t.toNat) (j := j) h0l
      obtain ⟨q, hq, hqz⟩ := All2.get' (SH.prop H (i := 2) rfl) hz
      rw [List.getElem?_map, Option.map_eq_some_iff] at hq
      obtain ⟨z, hzz, rfl⟩ := hq
      rw [← hkn] at hzz
      obtain ⟨z1, z2, ⟨z3, z4, z5, z6⟩⟩ := z
      have hts := turnL_succ ms t.toNat j
      have htk := V.take_snoc hm
      generalize turnN ms t.toNat j = mz at *
      obtain ⟨n1, n2, n3, n4, n5, n6⟩ := mz
      obtain ⟨d1, d2, d3, d4, d5, d6⟩ := hqz
      dsimp only [memA] at d1 d2 d3 d4 d5 d6
      subst d1 d2 d3 d4 d5
      have s6 : smallG m6 := fun gg hgg => by have := (good_len ((may_len (hap.1 _ (List.mem_of_getElem? hm))).2.2.2.2.2 gg hgg)).1; omega
      have t6 : smallG n6 := fun gg hgg => by have := (good_len ((may_len (hap.1 _ (List.mem_of_getElem? hz))).2.2.2.2.2 gg hgg)).1; omega
      have ho6 : oneC y6 = true := Rs.oneC e6
      have hoz : oneC z6 = true := Rs.oneC d6
      have hw : Ext0 wL2 wL2 := Ext.refl _ _
      refine CW.region ?_
      refine r_move rfl ?_
      refine r_move rfl ?_
      refine r_move rfl ?_
      refine r_indexAddrV rfl Try.underlying87 (by simp only [upd_get, ev, Nat.reduceEqDiff, ↓reduceIte] <;> rfl) rfl (by first | assumption | exact SH.rsR H (by (repeat first | exact At.here | apply At.there); done) | exact SH.rsO H (by (repeat first | exact At.here | apply At.there); done) | exact (Rs.nil : Rs Non _ _ _)) (by exact Try.sizeOf66) (by omega) (by omega) ?_
      refine r_loadA rfl Try.isAgg66 Try.sizeOf66 rfl (by first | exact Rs.cells0 (by first | assumption | exact SH.rsR H (by (repeat first | exact At.here | apply At.there); done) | exact SH.rsO H (by (repeat first | exact At.here | apply At.there); done) | exact (Rs.nil : Rs Non _ _ _)) (by assumption)) (by rfl) ?_
      refine r_call rfl Try.call63 (by simp only [List.map_cons, List.map_nil, List.map_toArray, List.toList_toArray, upd_get, ev, Nat.reduceEqDiff, ↓reduceIte] <;> rfl) (Keep_c ⟨_, _, ⟨_, _, _, _⟩⟩ _ (SH.rsO H (i := 3) rfl) (SH.prop H (i := 4) rfl) e6 (by omega) a1 s6) ?_
      rintro _ w10_5 ⟨v10_5, raws10_5, g10_5, F10_5, rfl, K⟩
      refine ⟨_, rfl, ?_⟩
      replace H := SH.call H K
      clear K
      try dsimp only [replC, List.cons_append, List.nil_append, List.append_nil] at H
      have d6' := (All2.get (SH.prop H (i := 2) rfl) (show (al.map memA)[(((j : Int) + t) % (al.length : Nat)).toNat]? = _ by rw [List.getElem?_map, hzz]; rfl))
      refine r_assign rfl ?_
      refine LW.nil ?_
      refine thenE_norm ?_
      refine cut (K := K14) [1, 5, 7, 8, 9] (fun σ => ?_)
      simp only [setL, keepE, upd_get, ev, Nat.reduceEqDiff, ↓reduceIte]
      refine h14 _ _ ?_; clear h14; try clear K14
      refine CW.region ?_
      refine r_move rfl ?_
      refine r_move rfl ?_
      refine r_move rfl ?_
      refine r_move rfl ?_
      refine r_convI rfl Try.underlying5 Try.underlying3 rfl (wr_i64 (by omega) (by omega)) ?_
      refine r_add rfl rfl rfl (wr_i64 (by omega) (by omega)) ?_
      refine r_move rfl ?_
      first
        | refine r_lenV rfl Try.underlying87 (by simp only [upd_get, ev, Nat.reduceEqDiff, ↓reduceIte] <;> rfl) (by first | assumption | exact SH.rsR H (by (repeat first | exact At.here | apply At.there); done) | exact SH.rsO H (by (repeat first | exact At.here | apply At.there); done) | exact (Rs.nil : Rs Non _ _ _)) ?_
        | refine r_len rfl Try.underlying87 rfl ?_
      refine r_rem rfl rfl rfl (by omega) (by omega) (wr_i64 (by omega) (by omega)) ?_
      refine r_indexAddrV rfl Try.underlying87 (by simp only [upd_get, ev, Nat.reduceEqDiff, ↓reduceIte] <;> rfl) rfl (by first | assumption | exact SH.rsR H (by (repeat first | exact At.here | apply At.there); done) | exact SH.rsO H (by (repeat first | exact At.here | apply At.there); done) | exact (Rs.nil : Rs Non _ _ _)) (by exact Try.sizeOf66) (by omega) (by omega) ?_
      refine r_loadA rfl Try.isAgg66 Try.sizeOf66 rfl (by first | exact Rs.cells0 (by first | assumption | exact SH.rsR H (by (repeat first | exact At.here | apply At.there); done) | exact SH.rsO H (by (repeat first | exact At.here | apply At.there); done) | exact (Rs.nil : Rs Non _ _ _)) (by assumption)) (by rfl) ?_
      refine r_call rfl Try.call63 (by simp only [List.map_cons, List.map_nil, List.map_toArray, List.toList_toArray, upd_get, ev, Nat.reduceEqDiff, ↓reduceIte] <;> rfl) (Keep_c ⟨_, _, ⟨_, _, _, _⟩⟩ _ (SH.rsO H (i := 5) rfl) (SH.prop H (i := 6) rfl) (by obtain ⟨mm, hmm, hrr⟩ := d6'; rw [hkn, hz] at hmm; cases hmm; exact hrr.2.2.2.2.2) (by omega) b1 t6) ?_
      rintro _ w11_11 ⟨v11_11, raws11_11, g11_11, F11_11, rfl, K⟩
      refine ⟨_, rfl, ?_⟩
      replace H := SH.call H K
      clear K
      try dsimp only [replC, List.cons_append, List.nil_append, List.append_nil] at H
      refine r_assign rfl ?_
      refine LW.nil ?_
      refine blockE_norm ?_
      refine thenE_norm (h13 _ _ ?_); clear h13; try clear K13
      refine CW.region ?_
      refine r_move rfl ?_
      refine r_add rfl rfl rfl (wr_i64 (by omega) (by omega)) ?_
      refine r_assign rfl ?_
      refine LW.nil ?_
      refine thenE_norm ⟨rfl, ?_⟩
      have k1 : keepN (keepL (ms.take j)) (mmA ⟨y1, y2, ⟨y3, y4, y5, y6⟩⟩ m6) = keepL (ms.take (j + 1)) := by rw [htk, keepL_snoc]; rfl
      have k2 : keepN (keepL (turnL ms t.toNat j)) (mmA ⟨z1, z2, ⟨z3, z4, z5, z6⟩⟩ n6) = keepL (turnL ms t.toNat (j + 1)) := by rw [hts, keepL_snoc]; rfl
      rw [k1, k2] at H
      exact ⟨al.length - (j + 1), by omega, j + 1, _, _, _, _, _, _, _, _, rfl, by omega, rfl, SH.sel H [0, 1, 2, 7, 8, 9, 10] (by decide) rfl⟩
    · try simp only [decide_eq_true_eq, decide_eq_false_iff_not, Bool.and_eq_true, Bool.or_eq_true, Bool.and_eq_false_iff, Bool.or_eq_false_iff, Bool.not_eq_true', Bool.not_eq_false', beq_iff_eq, bne_iff_ne, ne_eq, Decidable.not_not] at hc2
      refine CW.exit (thenE_exit (thenE_exit (blockE_hit ?_)))
      refine thenE_norm (h9 _ _ ?_); clear h9; try clear K9
      refine CW.seq (fun K15 h15 => ?_)
      obtain rfl : j = al.length := by omega
      have heq : keepL (turnL ms t.toNat al.length) = keepL (ms.take al.length) := by
        rw [List.take_of_length_le (by omega), l1]
        rcases Nat.eq_zero_or_pos ms.length with q | q
        · have : ms = [] := List.length_eq_zero_iff.1 q
          subst this; rfl
        · exact keep_two t.toNat hap q
      rw [heq] at H
      rw [List.length_take] at a2
      refine CW.region ?_
      refine r_move rfl ?_
      refine r_move rfl ?_
      refine r_call rfl Try.call64 (by simp only [List.map_cons, List.map_nil, List.map_toArray, List.toList_toArray, upd_get, ev, Nat.reduceEqDiff, ↓reduceIte] <;> rfl) (SameMemos_c _ (SH.rsO H (i := 3) rfl) (SH.rsO H (i := 5) rfl) (SH.prop H (i := 4) rfl) (SH.prop H (i := 6) rfl)) ?_
      rintro _ w12_2 ⟨rfl, X⟩
      refine ⟨_, rfl, ?_⟩
      replace H := SH.same H X
      clear X
      refine r_move rfl ?_
      refine LW.known (t := 60) (c := true) rfl (by simp) (fun hg12_4 => ?_)
      refine LW.want rfl rfl hg12_4 ?_
      refine r_move rfl ?_
      refine LW.want rfl rfl hg12_4 ?_
      first
        | refine r_lenV rfl Try.underlying81 (by simp only [upd_get, ev, Nat.reduceEqDiff, ↓reduceIte] <;> rfl) (by first | assumption | exact SH.rsR H (by (repeat first | exact At.here | apply At.there); done) | exact SH.rsO H (by (repeat first | exact At.here | apply At.there); done) | exact (Rs.nil : Rs Non _ _ _)) ?_
        | refine r_len rfl Try.underlying81 rfl ?_
      refine LW.want rfl rfl hg12_4 ?_
      refine r_move rfl ?_
      refine LW.want rfl rfl hg12_4 ?_
      first
        | refine r_lenV rfl Try.underlying87 (by simp only [upd_get, ev, Nat.reduceEqDiff, ↓reduceIte] <;> rfl) (by first | assumption | exact SH.rsR H (by (repeat first | exact At.here | apply At.there); done) | exact SH.rsO H (by (repeat first | exact At.here | apply At.there); done) | exact (Rs.nil : Rs Non _ _ _)) ?_
        | refine r_len rfl Try.underlying87 rfl ?_
      refine LW.want rfl rfl hg12_4 ?_
      refine r_eql rfl rfl rfl ?_
      refine r_pickT rfl rfl hg12_4 ?_
      refine r_move rfl ?_
      refine LW.known (t := 67) (c := true) rfl (by simp; omega) (fun hg12_11 => ?_)
      refine LW.want rfl rfl hg12_11 ?_
      refine r_move rfl ?_
      refine LW.want rfl rfl hg12_11 ?_
      refine r_call rfl Try.call60 (by simp only [List.map_cons, List.map_nil, List.map_toArray, List.toList_toArray, upd_get, ev, Nat.reduceEqDiff, ↓reduceIte] <;> rfl) (Right_c _ (SH.rsO H (i := 3) rfl) (SH.prop H (i := 4) rfl) (right_small a1)) ?_
      rintro _ w12_12 ⟨rfl, X⟩
      refine ⟨_, rfl, ?_⟩
      replace H := SH.same H X
      clear X
      refine r_pickT rfl rfl hg12_11 ?_
      refine r_move rfl ?_
      refine LW.known (t := 71) (c := true) rfl (by rw [a1]) (fun hg12_15 => ?_)
      refine LW.want rfl rfl hg12_15 ?_
      refine r_call rfl Try.call59 (by simp only [List.map_cons, List.map_nil, List.map_toArray, List.toList_toArray, upd_get, ev, Nat.reduceEqDiff, ↓reduceIte] <;> rfl) (awake9_c _) ?_
      rintro _ w12_15 ⟨rfl, X⟩
      refine ⟨_, rfl, ?_⟩
      replace H := SH.same H X
      clear X
      refine r_pickT rfl rfl hg12_15 ?_
      refine r_assign rfl ?_
      refine LW.nil ?_
      refine thenE_norm ?_
      refine cut (K := K15) [4] (fun σ => ?_)
      simp only [setL, keepE, upd_get, ev, Nat.reduceEqDiff, ↓reduceIte]
      refine h15 _ _ ?_; clear h15; try clear K15
      refine CW.ret (ret1 Try.results14 (by simp only [upd_get, ev, Nat.reduceEqDiff, ↓reduceIte]; rfl) ?_)
      exact ⟨rfl, H.ext⟩
end Go.Proofs.Ytlfbofnfhhddbaa
