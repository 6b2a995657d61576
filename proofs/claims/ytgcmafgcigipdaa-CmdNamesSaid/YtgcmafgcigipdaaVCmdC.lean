/-
  The walks of layer 4's functions, and of the document's, the third part: what a command is put as, and read as.
-/
import Derived.Test.YtgcmafgcigipdaaVCmdB
namespace Go.Proofs.Ytgcmafgcigipdaa
set_option linter.unusedSimpArgs false
set_option linter.unusedVariables false
set_option maxRecDepth 20000
open Go.V Go.RowKit

theorem Put_c (k n : Int) (s : ByteArray) (w : World) (hs : s.size ≤ 9223372036854775807) :
    Calls Try.prog 32 #[cmdV k n s] w fun e w' => ∃ v, e = .returned (.tuple #[v, .int .i64 (putM k n s.data.toList).2]) ∧ Bs (New w) w' v (putM k n s.data.toList).1 ∧ Ext0 w w' := by
  have hsz : s.data.toList.length = s.size := by simp
  refine calls_of_CW Try.func32 rfl Try.ntmps32 (Nat.le_of_ble_eq_true rfl) ?_
  simp only [argE, argFrom, Nat.reduceAdd]
  refine CW.seq (fun K1 h1 => ?_)
  refine CW.region ?_
  refine r_box rfl (by simp only [upd_get, ev, Nat.reduceEqDiff, ↓reduceIte] <;> rfl) rfl ?_
  intro b0_0 w0_0 hb0_0 hs0_0 hE0_0 hB0_0
  have hB : Blk w0_0 b0_0 42 (cmdL k n s) := hB0_0
  refine r_assign rfl ?_
  refine r_assign rfl ?_
  refine LW.nil ?_
  refine thenE_norm (h1 _ _ ?_); clear h1; try clear K1
  refine CW.seq (fun K2 h2 => ?_)
  refine CW.seq (fun K3 h3 => ?_)
  refine CW.region ?_
  refine r_loadA rfl Try.isAgg42 Try.sizeOf42 rfl (hB.cellsAll) rfl ?_
  refine r_call rfl Try.call36 rfl (May_c k n s _ hs) ?_
  rintro _ w1 ⟨rfl, hE1⟩
  refine ⟨_, rfl, ?_⟩
  have e1 := hE0_0.trans hE1
  have hB1 := hB.up0 hE1
  refine r_not rfl rfl ?_
  refine LW.nil ?_
  refine thenE_norm (h3 _ _ ?_); clear h3; try clear K3
  refine CW.cond rfl (fun hc1 => ?_) (fun hc1 => ?_)
  · try simp only [decide_eq_true_eq, decide_eq_false_iff_not, Bool.and_eq_true, Bool.or_eq_true, Bool.and_eq_false_iff, Bool.or_eq_false_iff, Bool.not_eq_true', Bool.not_eq_false', beq_iff_eq, bne_iff_ne] at hc1
    refine CW.seq (fun K4 h4 => ?_)
    refine CW.region ?_
    refine r_assign rfl ?_
    refine r_assign rfl ?_
    refine LW.nil ?_
    refine thenE_norm ?_
    refine cut (K := K4) [2, 3] (fun σ => ?_)
    simp only [setL, keepE, upd_get, ev, Nat.reduceEqDiff, ↓reduceIte]
    refine h4 _ _ ?_; clear h4; try clear K4
    refine CW.ret (thenE_ret (ret2 Try.results32 (by simp only [upd_get, ev, Nat.reduceEqDiff, ↓reduceIte]; rfl) (by simp only [upd_get, ev, Nat.reduceEqDiff, ↓reduceIte]; rfl) ?_))
    exact ⟨_, by rw [putM, if_neg (by simpa using hc1)], by rw [putM, if_neg (by simpa using hc1)]; exact Bs.nil, e1⟩
  · try simp only [decide_eq_true_eq, decide_eq_false_iff_not, Bool.and_eq_true, Bool.or_eq_true, Bool.and_eq_false_iff, Bool.or_eq_false_iff, Bool.not_eq_true', Bool.not_eq_false', beq_iff_eq, bne_iff_ne] at hc1
    have hm : mayM k n s.data.toList = true := by simpa using hc1
    obtain ⟨k1, k2, k3, k4, k5⟩ := may_all hm
    have p1 : putByteM k = ([UInt8.ofNat k.toNat], 0) := by rw [putByteM, if_pos (by omega)]
    have p2 : putNumM n = (eight n.toNat, 0) := by rw [putNumM, if_pos (by omega)]
    have p3 : putTextM s.data.toList = (UInt8.ofNat s.data.toList.length :: s.data.toList, 0) := by rw [putTextM, if_pos (by omega)]
    have d2 := PutByte_c k w1
    rw [p1] at d2
    dsimp only at d2
    refine CW.skip ?_
    refine thenE_norm (h2 _ _ ?_); clear h2; try clear K2
    refine CW.seq (fun K5 h5 => ?_)
    refine CW.region ?_
    refine r_fieldAddr rfl Try.underlying42 rfl Try.sizeOf3 (by decide) rfl ?_
    refine r_load rfl Try.isAgg3 rfl (hB1.cell (o := 0) rfl) ?_
    refine r_call rfl Try.call27 rfl (d2) ?_
    rintro _ w2 ⟨v2, rfl, hv2, hE2⟩
    refine ⟨_, rfl, ?_⟩
    have e2 := e1.trans hE2
    have hB2 := hB1.up0 hE2
    have d3 := PutNum_c n w2
    rw [p2] at d3
    dsimp only at d3
    refine r_move rfl ?_
    refine r_extract rfl rfl rfl ?_
    refine r_extract rfl rfl rfl ?_
    refine r_assign rfl ?_
    refine r_assign rfl ?_
    refine LW.nil ?_
    refine thenE_norm ?_
    refine cut (K := K5) [1, 4] (fun σ => ?_)
    simp only [setL, keepE, upd_get, ev, Nat.reduceEqDiff, ↓reduceIte]
    refine h5 _ _ ?_; clear h5; try clear K5
    refine CW.seq (fun K6 h6 => ?_)
    refine CW.region ?_
    refine r_fieldAddr rfl Try.underlying42 rfl Try.sizeOf3 (by decide) rfl ?_
    refine r_load rfl Try.isAgg3 rfl (hB2.cell (o := 1) rfl) ?_
    refine r_call rfl Try.call16 rfl (d3) ?_
    rintro _ w3 ⟨v3, rfl, hv3, hE3⟩
    refine ⟨_, rfl, ?_⟩
    have e3 := e2.trans hE3
    have hB3 := hB2.up0 hE3
    have d4 := PutText_c s w3
    rw [p3] at d4
    dsimp only at d4
    refine r_move rfl ?_
    refine r_extract rfl rfl rfl ?_
    refine r_extract rfl rfl rfl ?_
    refine r_assign rfl ?_
    refine r_assign rfl ?_
    refine LW.nil ?_
    refine thenE_norm ?_
    refine cut (K := K6) [1, 4, 6] (fun σ => ?_)
    simp only [setL, keepE, upd_get, ev, Nat.reduceEqDiff, ↓reduceIte]
    refine h6 _ _ ?_; clear h6; try clear K6
    refine CW.seq (fun K7 h7 => ?_)
    refine CW.region ?_
    refine r_fieldAddr rfl Try.underlying42 rfl Try.sizeOf9 (by decide) rfl ?_
    refine r_load rfl Try.isAgg9 rfl (hB3.cell (o := 2) rfl) ?_
    refine r_call rfl Try.call18 rfl (d4) ?_
    rintro _ w4 ⟨v4, rfl, hv4, hE4⟩
    refine ⟨_, rfl, ?_⟩
    have e4 := e3.trans hE4
    obtain ⟨ao2, cap2, rfl, -, -, -⟩ := hv2.cell
    obtain ⟨ao3, cap3, rfl, -, -, -⟩ := hv3.cell
    obtain ⟨ao4, cap4, rfl, -, -, -⟩ := hv4.cell
    refine r_move rfl ?_
    refine r_extract rfl rfl rfl ?_
    refine r_extract rfl rfl rfl ?_
    refine r_assign rfl ?_
    refine r_assign rfl ?_
    refine LW.nil ?_
    refine thenE_norm ?_
    refine cut (K := K7) [4, 6, 8] (fun σ => ?_)
    simp only [setL, keepE, upd_get, ev, Nat.reduceEqDiff, ↓reduceIte]
    refine h7 _ _ ?_; clear h7; try clear K7
    refine CW.seq (fun K8 h8 => ?_)
    refine CW.region ?_
    refine r_move rfl ?_
    refine r_move rfl ?_
    refine r_move rfl ?_
    refine r_buildSlice rfl Try.underlying77 Try.sizeOf23 Try.zeroValue23 rfl rfl rfl rfl ?_
    intro b6_3 w6_3 hb6_3 hs6_3 hE6_3 hB6_3
    have e5 := e4.trans hE6_3
    have j2 : Bs (fun _ => True) w6_3 _ [UInt8.ofNat k.toNat] := Sl.mono (((hv2.up0 hE3).up0 hE4).up0 hE6_3) (fun _ _ _ => trivial)
    have j3 : Bs (fun _ => True) w6_3 _ (eight n.toNat) := Sl.mono ((hv3.up0 hE4).up0 hE6_3) (fun _ _ _ => trivial)
    have j4 : Bs (fun _ => True) w6_3 _ (UInt8.ofNat s.data.toList.length :: s.data.toList) := Sl.mono (hv4.up0 hE6_3) (fun _ _ _ => trivial)
    have hS : Sl (fun _ => True) w6_3 (.slice (some ⟨b6_3, 0, none⟩) 3 3) 3 [.slice ao2 [UInt8.ofNat k.toNat].length cap2, .slice ao3 (eight n.toNat).length cap3, .slice ao4 (UInt8.ofNat s.data.toList.length :: s.data.toList).length cap4] := ⟨_, _, rfl, Nat.le_refl _, by decide, .inr ⟨_, _, rfl, trivial, hB6_3.cellsAll⟩⟩
    have d7 := Concat_c (vs := [.slice ao2 [UInt8.ofNat k.toNat].length cap2, .slice ao3 (eight n.toNat).length cap3, .slice ao4 (UInt8.ofNat s.data.toList.length :: s.data.toList).length cap4]) (xss := [[UInt8.ofNat k.toNat], eight n.toNat, UInt8.ofNat s.data.toList.length :: s.data.toList]) _ hS rfl (fun i hi => match i, hi with | 0, _ => j2 | 1, _ => j3 | 2, _ => j4) (by simp [eight_len]; omega) (by simp)
    refine r_call rfl Try.call54 rfl (d7) ?_
    rintro _ w7 ⟨v7, g7, rfl, hO7, hg7, hE7⟩
    refine ⟨_, rfl, ?_⟩
    refine r_assign rfl ?_
    refine r_assign rfl ?_
    refine LW.nil ?_
    refine thenE_norm (h8 _ _ ?_); clear h8; try clear K8
    refine CW.ret (ret2 Try.results32 (by simp only [upd_get, ev, Nat.reduceEqDiff, ↓reduceIte]; rfl) (by simp only [upd_get, ev, Nat.reduceEqDiff, ↓reduceIte]; rfl) ?_)
    have hfl : [[UInt8.ofNat k.toNat], eight n.toNat, UInt8.ofNat s.data.toList.length :: s.data.toList].flatten = [UInt8.ofNat k.toNat] ++ eight n.toNat ++ (UInt8.ofNat s.data.toList.length :: s.data.toList) := by simp
    rw [hfl] at hO7
    rw [putM, if_pos hm]
    exact ⟨_, rfl, hO7.sl.mono (fun b _ h => by have := hg7 b h; have := e5.size; show w.heap.size ≤ b; omega), e5.trans hE7⟩

theorem PutR_c (k n : Int) (s : ByteArray) (w : World) (hs : s.size ≤ 9223372036854775807) :
    Calls Try.prog 33 #[cmdV k n s] w fun e w' => ∃ v, e = .returned (.tuple #[v, .int .i64 (putM k n s.data.toList).2]) ∧ Bs (New w) w' v (putM k n s.data.toList).1 ∧ Ext0 w w' := by
  have hsz : s.data.toList.length = s.size := by simp
  refine calls_of_CW Try.func33 rfl Try.ntmps33 (Nat.le_of_ble_eq_true rfl) ?_
  simp only [argE, argFrom, Nat.reduceAdd]
  refine CW.seq (fun K1 h1 => ?_)
  refine CW.region ?_
  refine r_box rfl (by simp only [upd_get, ev, Nat.reduceEqDiff, ↓reduceIte] <;> rfl) rfl ?_
  intro b0_0 w0_0 hb0_0 hs0_0 hE0_0 hB0_0
  have hB : Blk w0_0 b0_0 42 (cmdL k n s) := hB0_0
  refine r_assign rfl ?_
  refine r_assign rfl ?_
  refine LW.nil ?_
  refine thenE_norm (h1 _ _ ?_); clear h1; try clear K1
  refine CW.seq (fun K2 h2 => ?_)
  refine CW.seq (fun K3 h3 => ?_)
  refine CW.region ?_
  refine r_loadA rfl Try.isAgg42 Try.sizeOf42 rfl (hB.cellsAll) rfl ?_
  refine r_call rfl Try.call37 rfl (MayR_c k n s _) ?_
  rintro _ w1 ⟨rfl, hE1⟩
  refine ⟨_, rfl, ?_⟩
  have e1 := hE0_0.trans hE1
  have hB1 := hB.up0 hE1
  refine r_not rfl rfl ?_
  refine LW.nil ?_
  refine thenE_norm (h3 _ _ ?_); clear h3; try clear K3
  refine CW.cond rfl (fun hc1 => ?_) (fun hc1 => ?_)
  · try simp only [decide_eq_true_eq, decide_eq_false_iff_not, Bool.and_eq_true, Bool.or_eq_true, Bool.and_eq_false_iff, Bool.or_eq_false_iff, Bool.not_eq_true', Bool.not_eq_false', beq_iff_eq, bne_iff_ne] at hc1
    refine CW.seq (fun K4 h4 => ?_)
    refine CW.region ?_
    refine r_assign rfl ?_
    refine r_assign rfl ?_
    refine LW.nil ?_
    refine thenE_norm ?_
    refine cut (K := K4) [2, 3] (fun σ => ?_)
    simp only [setL, keepE, upd_get, ev, Nat.reduceEqDiff, ↓reduceIte]
    refine h4 _ _ ?_; clear h4; try clear K4
    refine CW.ret (thenE_ret (ret2 Try.results33 (by simp only [upd_get, ev, Nat.reduceEqDiff, ↓reduceIte]; rfl) (by simp only [upd_get, ev, Nat.reduceEqDiff, ↓reduceIte]; rfl) ?_))
    exact ⟨_, by rw [putM, if_neg (by simpa using hc1)], by rw [putM, if_neg (by simpa using hc1)]; exact Bs.nil, e1⟩
  · try simp only [decide_eq_true_eq, decide_eq_false_iff_not, Bool.and_eq_true, Bool.or_eq_true, Bool.and_eq_false_iff, Bool.or_eq_false_iff, Bool.not_eq_true', Bool.not_eq_false', beq_iff_eq, bne_iff_ne] at hc1
    have hm : mayM k n s.data.toList = true := by simpa using hc1
    obtain ⟨k1, k2, k3, k4, k5⟩ := may_all hm
    have hk8 : (UInt8.ofNat k.toNat).toNat = k := by rw [UInt8.toNat_ofNat']; omega
    refine CW.skip ?_
    refine thenE_norm (h2 _ _ ?_); clear h2; try clear K2
    refine CW.seq (fun K5 h5 => ?_)
    refine CW.draw (fun u => Blk u b0_0 42 (cmdL k n s)) (by kernel_rfl) rfl (fun w3d hh3d hE3d => ?_)
    have eC : Ext0 w1 w3d := hE3d
    have hBC := hB1.up0 hE3d
    have hb1 := hB1.lt
    refine DW.take (i := 0) rfl (by kernel_rfl) (by kernel_rfl) (by kernel_rfl) rfl rfl (fun u hu => x_fieldAddr Try.underlying42 rfl Try.sizeOf3 (by decide) rfl) hBC ?_
    refine DW.take (i := 1) rfl (by kernel_rfl) (by kernel_rfl) (by kernel_rfl) rfl rfl (fun u hu => x_load Try.isAgg3 rfl (hu.cell (o := 0) rfl)) hBC ?_
    refine DW.take (i := 2) rfl (by kernel_rfl) (by kernel_rfl) (by kernel_rfl) rfl rfl (fun u hu => x_convI Try.underlying3 Try.underlying5 rfl (wr_u8 (by omega) (by omega))) hBC ?_
    refine DW.take (i := 4) rfl (by kernel_rfl) (by kernel_rfl) (by kernel_rfl) rfl rfl (fun u hu => x_fieldAddr Try.underlying42 rfl Try.sizeOf3 (by decide) rfl) hBC ?_
    refine DW.take (i := 5) rfl (by kernel_rfl) (by kernel_rfl) (by kernel_rfl) rfl rfl (fun u hu => x_load Try.isAgg3 rfl (hu.cell (o := 1) rfl)) hBC ?_
    refine DW.two (i := 3) (j := 6) (by kernel_rfl) ?_ ?_
    · refine DOp.of rfl rfl ?_
      refine r_buildSlice rfl Try.underlying23 Try.sizeOf5 Try.zeroValue5 rfl rfl rfl rfl ?_
      intro b3_3 w3_3 hb3_3 hs3_3 hE3_3 hB3_3
      have hBC := hBC.up0 hE3_3
      have eC := Ext0.trans eC hE3_3
      have hL : Blk w3_3 b3_3 5 ([UInt8.ofNat k.toNat].map u8v) := by simp only [List.map_cons, List.map_nil, u8v]; rw [hk8]; exact hB3_3
      have hLn : w1.heap.size ≤ b3_3 := by have := hE3d.size; first | omega | (have := hE8.size; omega)
      try have hv8 := hv8.up0 hE3_3
      refine LW.nil (thenE_norm ⟨hBC, ?_⟩)
      refine DW.one (i := 6) (by kernel_rfl) rfl rfl ?_
      refine r_call rfl Try.call52 rfl (Eight_c n _ (by omega) (by omega)) ?_
      rintro _ w8 ⟨v8, rfl, hv8, hE8⟩
      refine ⟨_, rfl, ?_⟩
      have hBC := hBC.up0 hE8
      have eC := Ext0.trans eC hE8
      try have hL := hL.up0 hE8
      refine LW.nil (thenE_norm ⟨hBC, ?_⟩)
      refine DW.one (i := 7) (by kernel_rfl) rfl rfl ?_
      refine r_append rfl Try.underlying23 (.inl ⟨_, Try.underlying23⟩) Try.type5 rfl rfl rfl rfl rfl rfl (Own.blk (n := 1) hL rfl (by decide) rfl) (Bs.src hv8) (by simp only [maxLen, eight_len]; omega) (by rw [eight_len]; decide) ?_
      intro v3_7 w3_7 g3_7 hO3_7 hE3_7 hG3_7 hN3_7
      obtain ⟨eC, gC⟩ := appN eC hE3_7 (fun b hb => by cases hb; exact hLn) hG3_7
      have hBC := hBC.up hE3_7 (fun h => by cases h; omega)
      refine LW.nil (thenE_norm ⟨hBC, ?_⟩)
      refine DW.take (i := 8) rfl (by kernel_rfl) (by kernel_rfl) (by kernel_rfl) rfl rfl (fun u hu => x_assign ) hBC ?_
      refine DW.done (by kernel_rfl) ?_
      refine thenE_norm ?_
      refine cut (K := K5) [1, 4] (fun σ => ?_)
      simp only [setL, keepE, upd_get, ev, Nat.reduceEqDiff, ↓reduceIte]
      refine h5 _ _ ?_; clear h5; try clear K5
      refine CW.seq (fun K6 h6 => ?_)
      refine CW.draw (fun u => Blk u b0_0 42 (cmdL k n s)) (by kernel_rfl) rfl (fun w4d hh4d hE4d => ?_)
      have eC := Ext0.trans eC hE4d
      have hBC := hBC.up0 hE4d
      have hO4 := hO3_7.up0 hE4d
      refine DW.take (i := 0) rfl (by kernel_rfl) (by kernel_rfl) (by kernel_rfl) rfl rfl (fun u hu => x_move ) hBC ?_
      refine DW.take (i := 1) rfl (by kernel_rfl) (by kernel_rfl) (by kernel_rfl) rfl rfl (fun u hu => x_fieldAddr Try.underlying42 rfl Try.sizeOf9 (by decide) rfl) hBC ?_
      refine DW.take (i := 2) rfl (by kernel_rfl) (by kernel_rfl) (by kernel_rfl) rfl rfl (fun u hu => x_load Try.isAgg9 rfl (hu.cell (o := 2) rfl)) hBC ?_
      refine DW.take (i := 3) rfl (by kernel_rfl) (by kernel_rfl) (by kernel_rfl) rfl rfl (fun u hu => x_lenS Try.underlying9 rfl) hBC ?_
      refine DW.take (i := 4) rfl (by kernel_rfl) (by kernel_rfl) (by kernel_rfl) rfl rfl (fun u hu => x_convI Try.underlying3 Try.underlying5 rfl (wr_u8 (by omega) (by omega))) hBC ?_
      refine DW.take (i := 7) rfl (by kernel_rfl) (by kernel_rfl) (by kernel_rfl) rfl rfl (fun u hu => x_fieldAddr Try.underlying42 rfl Try.sizeOf9 (by decide) rfl) hBC ?_
      refine DW.take (i := 8) rfl (by kernel_rfl) (by kernel_rfl) (by kernel_rfl) rfl rfl (fun u hu => x_load Try.isAgg9 rfl (hu.cell (o := 2) rfl)) hBC ?_
      refine DW.one (i := 5) (by kernel_rfl) rfl rfl ?_
      refine r_buildSlice rfl Try.underlying23 Try.sizeOf5 Try.zeroValue5 rfl rfl rfl rfl ?_
      intro b4_5 w4_5 hb4_5 hs4_5 hE4_5 hB4_5
      have hBC := hBC.up0 hE4_5
      have eC := Ext0.trans eC hE4_5
      have hO4 := hO4.up0 hE4_5
      have hL2 : Bs (fun _ => True) w4_5 (.slice (some ⟨b4_5, 0, none⟩) 1 1) [UInt8.ofNat s.data.toList.length] := Bs.ofBlk (by rw [show [UInt8.ofNat s.data.toList.length].map u8v = [.int .u8 s.size] from by simp [u8v]; omega]; exact hB4_5) trivial rfl (by decide) (by decide)
      refine LW.nil (thenE_norm ⟨hBC, ?_⟩)
      refine DW.one (i := 6) (by kernel_rfl) rfl rfl ?_
      refine r_append rfl Try.underlying23 (.inl ⟨_, Try.underlying23⟩) Try.type5 rfl rfl rfl rfl rfl rfl hO4 (Bs.src hL2) (by simp only [maxLen, eight_len, List.length_singleton]; omega) (by show (1 + (eight n.toNat).length + 1) * 1 ≤ _; rw [eight_len]; decide) ?_
      intro v4_6 w4_6 g4_6 hO4_6 hE4_6 hG4_6 hN4_6
      have hBC := hBC.up hE4_6 (fun h => by have := gC _ h; omega)
      obtain ⟨eC, gC⟩ := appN eC hE4_6 gC hG4_6
      refine LW.nil (thenE_norm ⟨hBC, ?_⟩)
      refine DW.one (i := 9) (by kernel_rfl) rfl rfl ?_
      refine r_append rfl Try.underlying23 (.inr Try.underlying9) Try.type5 rfl rfl rfl rfl rfl rfl hO4_6 (Src.string s) (by simp only [maxLen, eight_len, List.length_singleton]; omega) (by show (1 + (eight n.toNat).length + 1 + s.size) * 1 ≤ _; rw [eight_len]; omega) ?_
      intro v4_9 w4_9 g4_9 hO4_9 hE4_9 hG4_9 hN4_9
      have hBC := hBC.up hE4_9 (fun h => by have := gC _ h; omega)
      obtain ⟨eC, gC⟩ := appN eC hE4_9 gC hG4_9
      refine LW.nil (thenE_norm ⟨hBC, ?_⟩)
      refine DW.take (i := 10) rfl (by kernel_rfl) (by kernel_rfl) (by kernel_rfl) rfl rfl (fun u hu => x_assign ) hBC ?_
      refine DW.take (i := 11) rfl (by kernel_rfl) (by kernel_rfl) (by kernel_rfl) rfl rfl (fun u hu => x_assign ) hBC ?_
      refine DW.done (by kernel_rfl) ?_
      refine thenE_norm ?_
      refine cut (K := K6) [2, 3] (fun σ => ?_)
      simp only [setL, keepE, upd_get, ev, Nat.reduceEqDiff, ↓reduceIte]
      refine h6 _ _ ?_; clear h6; try clear K6
      refine CW.ret (ret2 Try.results33 (by simp only [upd_get, ev, Nat.reduceEqDiff, ↓reduceIte]; rfl) (by simp only [upd_get, ev, Nat.reduceEqDiff, ↓reduceIte]; rfl) ?_)
      rw [putM, if_pos hm]
      refine ⟨_, rfl, ?_, e1.trans eC⟩
      have h := hO4_9.sl
      unfold Bs
      rw [show ([UInt8.ofNat k.toNat] ++ eight n.toNat ++ (UInt8.ofNat s.data.toList.length :: s.data.toList)).length = 1 + (eight n.toNat).length + [UInt8.ofNat s.data.toList.length].length + s.size from by simp only [List.length_append, List.length_cons, List.length_nil]; omega,
        show ([UInt8.ofNat k.toNat] ++ eight n.toNat ++ (UInt8.ofNat s.data.toList.length :: s.data.toList)).map u8v = [UInt8.ofNat k.toNat].map u8v ++ (eight n.toNat).map u8v ++ [UInt8.ofNat s.data.toList.length].map u8v ++ s.data.toList.map u8v from by simp]
      exact h.mono fun b _ hb => by have := gC b hb; have := e1.size; show w.heap.size ≤ b; omega
    · refine DOp.of rfl rfl ?_
      refine r_call rfl Try.call52 rfl (Eight_c n _ (by omega) (by omega)) ?_
      rintro _ w8 ⟨v8, rfl, hv8, hE8⟩
      refine ⟨_, rfl, ?_⟩
      have hBC := hBC.up0 hE8
      have eC := Ext0.trans eC hE8
      try have hL := hL.up0 hE8
      refine LW.nil (thenE_norm ⟨hBC, ?_⟩)
      refine DW.one (i := 3) (by kernel_rfl) rfl rfl ?_
      refine r_buildSlice rfl Try.underlying23 Try.sizeOf5 Try.zeroValue5 rfl rfl rfl rfl ?_
      intro b3_3 w3_3 hb3_3 hs3_3 hE3_3 hB3_3
      have hBC := hBC.up0 hE3_3
      have eC := Ext0.trans eC hE3_3
      have hL : Blk w3_3 b3_3 5 ([UInt8.ofNat k.toNat].map u8v) := by simp only [List.map_cons, List.map_nil, u8v]; rw [hk8]; exact hB3_3
      have hLn : w1.heap.size ≤ b3_3 := by have := hE3d.size; first | omega | (have := hE8.size; omega)
      try have hv8 := hv8.up0 hE3_3
      refine LW.nil (thenE_norm ⟨hBC, ?_⟩)
      refine DW.one (i := 7) (by kernel_rfl) rfl rfl ?_
      refine r_append rfl Try.underlying23 (.inl ⟨_, Try.underlying23⟩) Try.type5 rfl rfl rfl rfl rfl rfl (Own.blk (n := 1) hL rfl (by decide) rfl) (Bs.src hv8) (by simp only [maxLen, eight_len]; omega) (by rw [eight_len]; decide) ?_
      intro v3_7 w3_7 g3_7 hO3_7 hE3_7 hG3_7 hN3_7
      obtain ⟨eC, gC⟩ := appN eC hE3_7 (fun b hb => by cases hb; exact hLn) hG3_7
      have hBC := hBC.up hE3_7 (fun h => by cases h; omega)
      refine LW.nil (thenE_norm ⟨hBC, ?_⟩)
      refine DW.take (i := 8) rfl (by kernel_rfl) (by kernel_rfl) (by kernel_rfl) rfl rfl (fun u hu => x_assign ) hBC ?_
      refine DW.done (by kernel_rfl) ?_
      refine thenE_norm ?_
      refine cut (K := K5) [1, 4] (fun σ => ?_)
      simp only [setL, keepE, upd_get, ev, Nat.reduceEqDiff, ↓reduceIte]
      refine h5 _ _ ?_; clear h5; try clear K5
      refine CW.seq (fun K7 h7 => ?_)
      refine CW.draw (fun u => Blk u b0_0 42 (cmdL k n s)) (by kernel_rfl) rfl (fun w4d hh4d hE4d => ?_)
      have eC := Ext0.trans eC hE4d
      have hBC := hBC.up0 hE4d
      have hO4 := hO3_7.up0 hE4d
      refine DW.take (i := 0) rfl (by kernel_rfl) (by kernel_rfl) (by kernel_rfl) rfl rfl (fun u hu => x_move ) hBC ?_
      refine DW.take (i := 1) rfl (by kernel_rfl) (by kernel_rfl) (by kernel_rfl) rfl rfl (fun u hu => x_fieldAddr Try.underlying42 rfl Try.sizeOf9 (by decide) rfl) hBC ?_
      refine DW.take (i := 2) rfl (by kernel_rfl) (by kernel_rfl) (by kernel_rfl) rfl rfl (fun u hu => x_load Try.isAgg9 rfl (hu.cell (o := 2) rfl)) hBC ?_
      refine DW.take (i := 3) rfl (by kernel_rfl) (by kernel_rfl) (by kernel_rfl) rfl rfl (fun u hu => x_lenS Try.underlying9 rfl) hBC ?_
      refine DW.take (i := 4) rfl (by kernel_rfl) (by kernel_rfl) (by kernel_rfl) rfl rfl (fun u hu => x_convI Try.underlying3 Try.underlying5 rfl (wr_u8 (by omega) (by omega))) hBC ?_
      refine DW.take (i := 7) rfl (by kernel_rfl) (by kernel_rfl) (by kernel_rfl) rfl rfl (fun u hu => x_fieldAddr Try.underlying42 rfl Try.sizeOf9 (by decide) rfl) hBC ?_
      refine DW.take (i := 8) rfl (by kernel_rfl) (by kernel_rfl) (by kernel_rfl) rfl rfl (fun u hu => x_load Try.isAgg9 rfl (hu.cell (o := 2) rfl)) hBC ?_
      refine DW.one (i := 5) (by kernel_rfl) rfl rfl ?_
      refine r_buildSlice rfl Try.underlying23 Try.sizeOf5 Try.zeroValue5 rfl rfl rfl rfl ?_
      intro b4_5 w4_5 hb4_5 hs4_5 hE4_5 hB4_5
      have hBC := hBC.up0 hE4_5
      have eC := Ext0.trans eC hE4_5
      have hO4 := hO4.up0 hE4_5
      have hL2 : Bs (fun _ => True) w4_5 (.slice (some ⟨b4_5, 0, none⟩) 1 1) [UInt8.ofNat s.data.toList.length] := Bs.ofBlk (by rw [show [UInt8.ofNat s.data.toList.length].map u8v = [.int .u8 s.size] from by simp [u8v]; omega]; exact hB4_5) trivial rfl (by decide) (by decide)
      refine LW.nil (thenE_norm ⟨hBC, ?_⟩)
      refine DW.one (i := 6) (by kernel_rfl) rfl rfl ?_
      refine r_append rfl Try.underlying23 (.inl ⟨_, Try.underlying23⟩) Try.type5 rfl rfl rfl rfl rfl rfl hO4 (Bs.src hL2) (by simp only [maxLen, eight_len, List.length_singleton]; omega) (by show (1 + (eight n.toNat).length + 1) * 1 ≤ _; rw [eight_len]; decide) ?_
      intro v4_6 w4_6 g4_6 hO4_6 hE4_6 hG4_6 hN4_6
      have hBC := hBC.up hE4_6 (fun h => by have := gC _ h; omega)
      obtain ⟨eC, gC⟩ := appN eC hE4_6 gC hG4_6
      refine LW.nil (thenE_norm ⟨hBC, ?_⟩)
      refine DW.one (i := 9) (by kernel_rfl) rfl rfl ?_
      refine r_append rfl Try.underlying23 (.inr Try.underlying9) Try.type5 rfl rfl rfl rfl rfl rfl hO4_6 (Src.string s) (by simp only [maxLen, eight_len, List.length_singleton]; omega) (by show (1 + (eight n.toNat).length + 1 + s.size) * 1 ≤ _; rw [eight_len]; omega) ?_
      intro v4_9 w4_9 g4_9 hO4_9 hE4_9 hG4_9 hN4_9
      have hBC := hBC.up hE4_9 (fun h => by have := gC _ h; omega)
      obtain ⟨eC, gC⟩ := appN eC hE4_9 gC hG4_9
      refine LW.nil (thenE_norm ⟨hBC, ?_⟩)
      refine DW.take (i := 10) rfl (by kernel_rfl) (by kernel_rfl) (by kernel_rfl) rfl rfl (fun u hu => x_assign ) hBC ?_
      refine DW.take (i := 11) rfl (by kernel_rfl) (by kernel_rfl) (by kernel_rfl) rfl rfl (fun u hu => x_assign ) hBC ?_
      refine DW.done (by kernel_rfl) ?_
      refine thenE_norm ?_
      refine cut (K := K7) [2, 3] (fun σ => ?_)
      simp only [setL, keepE, upd_get, ev, Nat.reduceEqDiff, ↓reduceIte]
      refine h7 _ _ ?_; clear h7; try clear K7
      refine CW.ret (ret2 Try.results33 (by simp only [upd_get, ev, Nat.reduceEqDiff, ↓reduceIte]; rfl) (by simp only [upd_get, ev, Nat.reduceEqDiff, ↓reduceIte]; rfl) ?_)
      rw [putM, if_pos hm]
      refine ⟨_, rfl, ?_, e1.trans eC⟩
      have h := hO4_9.sl
      unfold Bs
      rw [show ([UInt8.ofNat k.toNat] ++ eight n.toNat ++ (UInt8.ofNat s.data.toList.length :: s.data.toList)).length = 1 + (eight n.toNat).length + [UInt8.ofNat s.data.toList.length].length + s.size from by simp only [List.length_append, List.length_cons, List.length_nil]; omega,
        show ([UInt8.ofNat k.toNat] ++ eight n.toNat ++ (UInt8.ofNat s.data.toList.length :: s.data.toList)).map u8v = [UInt8.ofNat k.toNat].map u8v ++ (eight n.toNat).map u8v ++ [UInt8.ofNat s.data.toList.length].map u8v ++ s.data.toList.map u8v from by simp]
      exact h.mono fun b _ hb => by have := gC b hb; have := e1.size; show w.heap.size ≤ b; omega

theorem Get_c {F : Nat → Prop} {v : Value} {xs : List UInt8} (at_ : Int) (w : World) (hv : Bs F w v xs) :
    Calls Try.prog 34 #[v, .int .i64 at_] w fun e w' => e = .returned (.tuple #[cmdV (getM xs at_).1.1 (getM xs at_).1.2.1 ⟨(getM xs at_).1.2.2.toArray⟩, .int .i64 (getM xs at_).2.1, .int .i64 (getM xs at_).2.2]) ∧ Ext0 w w' := by
  have hv' := hv
  obtain ⟨ao, cap, rfl, -, -, -⟩ := hv'.cell
  refine calls_of_CW Try.func34 rfl Try.ntmps34 (Nat.le_of_ble_eq_true rfl) ?_
  simp only [argE, argFrom, Nat.reduceAdd]
  refine CW.seq (fun K1 h1 => ?_)
  refine CW.region ?_
  refine r_alloc rfl Try.zeroValue42 rfl ?_
  intro b0_0 w0_0 hb0_0 hs0_0 hE0_0 hB0_0
  have k0 : Blk w0_0 b0_0 42 (cmdL 0 0 (ByteArray.mk #[])) := hB0_0
  refine r_assign rfl ?_
  refine r_assign rfl ?_
  refine LW.nil ?_
  refine thenE_norm (h1 _ _ ?_); clear h1; try clear K1
  refine CW.seq (fun K2 h2 => ?_)
  refine CW.region ?_
  refine r_build rfl Try.underlying42 Try.zeroValue42 rfl (pl := [(0, 1), (1, 1), (2, 1)]) (by intro w; simp [go_sem]) rfl ?_
  refine r_alloc rfl Try.zeroValue42 rfl ?_
  intro b1_1 w1_1 hb1_1 hs1_1 hE1_1 hB1_1
  have k1 : Blk w1_1 b1_1 42 (cmdL 0 0 (ByteArray.mk #[])) := hB1_1
  have k0 := k0.up0 hE1_1
  refine r_storeA Try.sizeOf42 rfl (by simp only [upd_get, ev, Nat.reduceEqDiff, ↓reduceIte] <;> rfl) rfl rfl rfl k1 (by decide) ?_
  intro w1_2 hs1_2 hE1_2 hB1_2
  have k1 : Blk w1_2 b1_1 42 (cmdL 0 0 (ByteArray.mk #[])) := hB1_2
  have k0 := k0.up hE1_2 (by omega)
  have e1 : Ext0 w w1_2 := (hE0_0.trans hE1_1).transN hE1_2 (fun x hx => by omega)
  refine LW.nil ?_
  refine thenE_norm (h2 _ _ ?_); clear h2; try clear K2
  refine CW.seq (fun K3 h3 => ?_)
  refine CW.region ?_
  refine r_assign rfl ?_
  refine LW.nil ?_
  refine thenE_norm (h3 _ _ ?_); clear h3; try clear K3
  refine CW.seq (fun K4 h4 => ?_)
  refine CW.seq (fun K5 h5 => ?_)
  refine CW.region ?_
  refine r_move rfl ?_
  refine r_move rfl ?_
  refine r_call rfl Try.call29 rfl (Byte_c at_ _ (hv.up0 e1)) ?_
  rintro _ w2 ⟨rfl, hE2⟩
  refine ⟨_, rfl, ?_⟩
  have k0 := k0.up0 hE2
  have k1 := k1.up0 hE2
  have e2 := e1.trans hE2
  refine r_move rfl ?_
  refine r_extract rfl rfl rfl ?_
  refine r_extract rfl rfl rfl ?_
  refine r_extract rfl rfl rfl ?_
  refine r_fieldAddr rfl Try.underlying42 rfl Try.sizeOf3 (by decide) rfl ?_
  refine r_store Try.sizeOf3 rfl (by simp only [upd_get, ev, Nat.reduceEqDiff, ↓reduceIte] <;> rfl) rfl k1 (by decide) ?_
  intro w3_8 hs3_8 hE3_8 hB3_8
  have k1 : Blk w3_8 b1_1 42 (cmdL (byteM xs at_).1 0 (ByteArray.mk #[])) := hB3_8
  have k0 := k0.up hE3_8 (by omega)
  have e3 : Ext0 w w3_8 := e2.transN hE3_8 (fun x hx => by omega)
  try simp only [Nat.zero_add, Nat.mul_one] at hB3_8
  refine r_assign rfl ?_
  refine r_assign rfl ?_
  refine LW.nil ?_
  refine thenE_norm ?_
  refine cut (K := K5) [0, 1, 4, 7, 8] (fun σ => ?_)
  simp only [setL, keepE, upd_get, ev, Nat.reduceEqDiff, ↓reduceIte]
  refine h5 _ _ ?_; clear h5; try clear K5
  refine CW.seq (fun K6 h6 => ?_)
  refine CW.region ?_
  refine r_move rfl ?_
  refine r_neq rfl rfl rfl ?_
  refine LW.nil ?_
  refine thenE_norm (h6 _ _ ?_); clear h6; try clear K6
  refine CW.cond rfl (fun hc1 => ?_) (fun hc1 => ?_)
  · try simp only [decide_eq_true_eq, decide_eq_false_iff_not, Bool.and_eq_true, Bool.or_eq_true, Bool.and_eq_false_iff, Bool.or_eq_false_iff, Bool.not_eq_true', Bool.not_eq_false', beq_iff_eq, bne_iff_ne] at hc1
    refine CW.seq (fun K7 h7 => ?_)
    refine CW.region ?_
    refine r_build rfl Try.underlying42 Try.zeroValue42 rfl (pl := [(0, 1), (1, 1), (2, 1)]) (by intro w; simp [go_sem]) rfl ?_
    refine r_move rfl ?_
    refine r_storeA Try.sizeOf42 rfl (by simp only [upd_get, ev, Nat.reduceEqDiff, ↓reduceIte] <;> rfl) rfl rfl rfl k0 (by decide) ?_
    intro w5_2 hs5_2 hE5_2 hB5_2
    refine r_assign rfl ?_
    refine r_assign rfl ?_
    refine LW.nil ?_
    refine thenE_norm (h7 _ _ ?_); clear h7; try clear K7
    refine CW.ret (thenE_ret (retC3 Try.results34 (by simp only [upd_get, ev, Nat.reduceEqDiff, ↓reduceIte] <;> rfl) (by simp only [upd_get, ev, Nat.reduceEqDiff, ↓reduceIte] <;> rfl) (by simp only [upd_get, ev, Nat.reduceEqDiff, ↓reduceIte] <;> rfl) Try.isAgg42 Try.sizeOf42 (hB5_2.cellsAll) rfl ?_))
    exact ⟨by rw [getM, if_pos hc1]; rfl, e3.transN hE5_2 (fun x hx => by omega)⟩
  · try simp only [decide_eq_true_eq, decide_eq_false_iff_not, Bool.and_eq_true, Bool.or_eq_true, Bool.and_eq_false_iff, Bool.or_eq_false_iff, Bool.not_eq_true', Bool.not_eq_false', beq_iff_eq, bne_iff_ne] at hc1
    refine CW.skip ?_
    refine thenE_norm (h4 _ _ ?_); clear h4; try clear K4
    refine CW.seq (fun K8 h8 => ?_)
    refine CW.seq (fun K9 h9 => ?_)
    refine CW.region ?_
    refine r_move rfl ?_
    refine r_move rfl ?_
    refine r_call rfl Try.call24 rfl (Num_c _ _ (hv.up0 e3)) ?_
    rintro _ w4 ⟨rfl, hE4⟩
    refine ⟨_, rfl, ?_⟩
    have k0 := k0.up0 hE4
    have k1 := k1.up0 hE4
    have e4 := e3.trans hE4
    refine r_move rfl ?_
    refine r_extract rfl rfl rfl ?_
    refine r_extract rfl rfl rfl ?_
    refine r_extract rfl rfl rfl ?_
    refine r_fieldAddr rfl Try.underlying42 rfl Try.sizeOf3 (by decide) rfl ?_
    refine r_store Try.sizeOf3 rfl (by simp only [upd_get, ev, Nat.reduceEqDiff, ↓reduceIte] <;> rfl) rfl k1 (by show 1 < 3; decide) ?_
    intro w6_8 hs6_8 hE6_8 hB6_8
    have k1 : Blk w6_8 b1_1 42 (cmdL (byteM xs at_).1 (numM xs (byteM xs at_).2.1).1 (ByteArray.mk #[])) := hB6_8
    have k0 := k0.up hE6_8 (by omega)
    have e5 : Ext0 w w6_8 := e4.transN hE6_8 (fun x hx => by omega)
    try simp only [Nat.zero_add, Nat.mul_one] at hB6_8
    refine r_assign rfl ?_
    refine r_assign rfl ?_
    refine LW.nil ?_
    refine thenE_norm ?_
    refine cut (K := K9) [0, 1, 4, 7, 8] (fun σ => ?_)
    simp only [setL, keepE, upd_get, ev, Nat.reduceEqDiff, ↓reduceIte]
    refine h9 _ _ ?_; clear h9; try clear K9
    refine CW.seq (fun K10 h10 => ?_)
    refine CW.region ?_
    refine r_move rfl ?_
    refine r_neq rfl rfl rfl ?_
    refine LW.nil ?_
    refine thenE_norm (h10 _ _ ?_); clear h10; try clear K10
    refine CW.cond rfl (fun hc2 => ?_) (fun hc2 => ?_)
    · try simp only [decide_eq_true_eq, decide_eq_false_iff_not, Bool.and_eq_true, Bool.or_eq_true, Bool.and_eq_false_iff, Bool.or_eq_false_iff, Bool.not_eq_true', Bool.not_eq_false', beq_iff_eq, bne_iff_ne] at hc2
      refine CW.seq (fun K11 h11 => ?_)
      refine CW.region ?_
      refine r_build rfl Try.underlying42 Try.zeroValue42 rfl (pl := [(0, 1), (1, 1), (2, 1)]) (by intro w; simp [go_sem]) rfl ?_
      refine r_move rfl ?_
      refine r_storeA Try.sizeOf42 rfl (by simp only [upd_get, ev, Nat.reduceEqDiff, ↓reduceIte] <;> rfl) rfl rfl rfl k0 (by decide) ?_
      intro w8_2 hs8_2 hE8_2 hB8_2
      refine r_assign rfl ?_
      refine r_assign rfl ?_
      refine LW.nil ?_
      refine thenE_norm (h11 _ _ ?_); clear h11; try clear K11
      refine CW.ret (thenE_ret (retC3 Try.results34 (by simp only [upd_get, ev, Nat.reduceEqDiff, ↓reduceIte] <;> rfl) (by simp only [upd_get, ev, Nat.reduceEqDiff, ↓reduceIte] <;> rfl) (by simp only [upd_get, ev, Nat.reduceEqDiff, ↓reduceIte] <;> rfl) Try.isAgg42 Try.sizeOf42 (hB8_2.cellsAll) rfl ?_))
      exact ⟨by rw [getM, if_neg hc1, if_pos hc2]; rfl, e5.transN hE8_2 (fun x hx => by omega)⟩
    · try simp only [decide_eq_true_eq, decide_eq_false_iff_not, Bool.and_eq_true, Bool.or_eq_true, Bool.and_eq_false_iff, Bool.or_eq_false_iff, Bool.not_eq_true', Bool.not_eq_false', beq_iff_eq, bne_iff_ne] at hc2
      refine CW.skip ?_
      refine thenE_norm (h8 _ _ ?_); clear h8; try clear K8
      refine CW.seq (fun K12 h12 => ?_)
      refine CW.seq (fun K13 h13 => ?_)
      refine CW.region ?_
      refine r_move rfl ?_
      refine r_move rfl ?_
      refine r_call rfl Try.call20 rfl (Text_c _ 12 _ (hv.up0 e5)) ?_
      rintro _ w6 ⟨rfl, hE6⟩
      refine ⟨_, rfl, ?_⟩
      have k0 := k0.up0 hE6
      have k1 := k1.up0 hE6
      have e6 := e5.trans hE6
      refine r_move rfl ?_
      refine r_extract rfl rfl rfl ?_
      refine r_extract rfl rfl rfl ?_
      refine r_extract rfl rfl rfl ?_
      refine r_fieldAddr rfl Try.underlying42 rfl Try.sizeOf9 (by decide) rfl ?_
      refine r_store Try.sizeOf9 rfl (by simp only [upd_get, ev, Nat.reduceEqDiff, ↓reduceIte] <;> rfl) rfl k1 (by show 2 < 3; decide) ?_
      intro w9_8 hs9_8 hE9_8 hB9_8
      have k1 : Blk w9_8 b1_1 42 (cmdL (byteM xs at_).1 (numM xs (byteM xs at_).2.1).1 ⟨(textM xs (numM xs (byteM xs at_).2.1).2.1 12).1.toArray⟩) := hB9_8
      have k0 := k0.up hE9_8 (by omega)
      have e7 : Ext0 w w9_8 := e6.transN hE9_8 (fun x hx => by omega)
      try simp only [Nat.zero_add, Nat.mul_one] at hB9_8
      refine r_assign rfl ?_
      refine r_assign rfl ?_
      refine LW.nil ?_
      refine thenE_norm ?_
      refine cut (K := K13) [1, 4, 7, 8] (fun σ => ?_)
      simp only [setL, keepE, upd_get, ev, Nat.reduceEqDiff, ↓reduceIte]
      refine h13 _ _ ?_; clear h13; try clear K13
      refine CW.seq (fun K14 h14 => ?_)
      refine CW.region ?_
      refine r_move rfl ?_
      refine r_neq rfl rfl rfl ?_
      refine LW.nil ?_
      refine thenE_norm (h14 _ _ ?_); clear h14; try clear K14
      refine CW.cond rfl (fun hc3 => ?_) (fun hc3 => ?_)
      · try simp only [decide_eq_true_eq, decide_eq_false_iff_not, Bool.and_eq_true, Bool.or_eq_true, Bool.and_eq_false_iff, Bool.or_eq_false_iff, Bool.not_eq_true', Bool.not_eq_false', beq_iff_eq, bne_iff_ne] at hc3
        refine CW.seq (fun K15 h15 => ?_)
        refine CW.region ?_
        refine r_build rfl Try.underlying42 Try.zeroValue42 rfl (pl := [(0, 1), (1, 1), (2, 1)]) (by intro w; simp [go_sem]) rfl ?_
        refine r_move rfl ?_
        refine r_storeA Try.sizeOf42 rfl (by simp only [upd_get, ev, Nat.reduceEqDiff, ↓reduceIte] <;> rfl) rfl rfl rfl k0 (by decide) ?_
        intro w11_2 hs11_2 hE11_2 hB11_2
        refine r_assign rfl ?_
        refine r_assign rfl ?_
        refine LW.nil ?_
        refine thenE_norm (h15 _ _ ?_); clear h15; try clear K15
        refine CW.ret (thenE_ret (retC3 Try.results34 (by simp only [upd_get, ev, Nat.reduceEqDiff, ↓reduceIte] <;> rfl) (by simp only [upd_get, ev, Nat.reduceEqDiff, ↓reduceIte] <;> rfl) (by simp only [upd_get, ev, Nat.reduceEqDiff, ↓reduceIte] <;> rfl) Try.isAgg42 Try.sizeOf42 (hB11_2.cellsAll) rfl ?_))
        exact ⟨by rw [getM, if_neg hc1, if_neg hc2, if_pos hc3]; rfl, e7.transN hE11_2 (fun x hx => by omega)⟩
      · try simp only [decide_eq_true_eq, decide_eq_false_iff_not, Bool.and_eq_true, Bool.or_eq_true, Bool.and_eq_false_iff, Bool.or_eq_false_iff, Bool.not_eq_true', Bool.not_eq_false', beq_iff_eq, bne_iff_ne] at hc3
        refine CW.skip ?_
        refine thenE_norm (h12 _ _ ?_); clear h12; try clear K12
        refine CW.seq (fun K16 h16 => ?_)
        refine CW.seq (fun K17 h17 => ?_)
        refine CW.region ?_
        refine r_loadA rfl Try.isAgg42 Try.sizeOf42 rfl (k1.cellsAll) rfl ?_
        refine r_call rfl Try.call36 rfl (May_c (byteM xs at_).1 (numM xs (byteM xs at_).2.1).1 ⟨(textM xs (numM xs (byteM xs at_).2.1).2.1 12).1.toArray⟩ _ (by have := textM_len xs (numM xs (byteM xs at_).2.1).2.1 12; show (textM xs (numM xs (byteM xs at_).2.1).2.1 12).1.toArray.size ≤ _; rw [List.size_toArray]; omega)) ?_
        rintro _ w8 ⟨rfl, hE8⟩
        refine ⟨_, rfl, ?_⟩
        have k0 := k0.up0 hE8
        have k1 := k1.up0 hE8
        have e8 := e7.trans hE8
        refine r_not rfl rfl ?_
        refine LW.nil ?_
        refine thenE_norm (h17 _ _ ?_); clear h17; try clear K17
        refine CW.cond rfl (fun hc4 => ?_) (fun hc4 => ?_)
        · try simp only [decide_eq_true_eq, decide_eq_false_iff_not, Bool.and_eq_true, Bool.or_eq_true, Bool.and_eq_false_iff, Bool.or_eq_false_iff, Bool.not_eq_true', Bool.not_eq_false', beq_iff_eq, bne_iff_ne] at hc4
          refine CW.seq (fun K18 h18 => ?_)
          refine CW.region ?_
          refine r_build rfl Try.underlying42 Try.zeroValue42 rfl (pl := [(0, 1), (1, 1), (2, 1)]) (by intro w; simp [go_sem]) rfl ?_
          refine r_storeA Try.sizeOf42 rfl (by simp only [upd_get, ev, Nat.reduceEqDiff, ↓reduceIte] <;> rfl) rfl rfl rfl k0 (by decide) ?_
          intro w13_1 hs13_1 hE13_1 hB13_1
          refine r_assign rfl ?_
          refine r_assign rfl ?_
          refine LW.nil ?_
          refine thenE_norm ?_
          refine cut (K := K18) [4, 5, 6] (fun σ => ?_)
          simp only [setL, keepE, upd_get, ev, Nat.reduceEqDiff, ↓reduceIte]
          refine h18 _ _ ?_; clear h18; try clear K18
          refine CW.ret (thenE_ret (retC3 Try.results34 (by simp only [upd_get, ev, Nat.reduceEqDiff, ↓reduceIte] <;> rfl) (by simp only [upd_get, ev, Nat.reduceEqDiff, ↓reduceIte] <;> rfl) (by simp only [upd_get, ev, Nat.reduceEqDiff, ↓reduceIte] <;> rfl) Try.isAgg42 Try.sizeOf42 (hB13_1.cellsAll) rfl ?_))
          exact ⟨by rw [getM, if_neg hc1, if_neg hc2, if_neg hc3, if_neg (by simpa using hc4)]; rfl, e8.transN hE13_1 (fun x hx => by omega)⟩
        · try simp only [decide_eq_true_eq, decide_eq_false_iff_not, Bool.and_eq_true, Bool.or_eq_true, Bool.and_eq_false_iff, Bool.or_eq_false_iff, Bool.not_eq_true', Bool.not_eq_false', beq_iff_eq, bne_iff_ne] at hc4
          refine CW.skip ?_
          refine thenE_norm (h16 _ _ ?_); clear h16; try clear K16
          refine CW.seq (fun K19 h19 => ?_)
          refine CW.region ?_
          refine r_loadA rfl Try.isAgg42 Try.sizeOf42 rfl (k1.cellsAll) rfl ?_
          refine r_move rfl ?_
          refine r_storeA Try.sizeOf42 rfl (by simp only [upd_get, ev, Nat.reduceEqDiff, ↓reduceIte] <;> rfl) rfl rfl rfl k0 (by decide) ?_
          intro w14_2 hs14_2 hE14_2 hB14_2
          refine r_assign rfl ?_
          refine r_assign rfl ?_
          refine LW.nil ?_
          refine thenE_norm ?_
          refine cut (K := K19) [4, 5, 6] (fun σ => ?_)
          simp only [setL, keepE, upd_get, ev, Nat.reduceEqDiff, ↓reduceIte]
          refine h19 _ _ ?_; clear h19; try clear K19
          refine CW.ret (retC3 Try.results34 (by simp only [upd_get, ev, Nat.reduceEqDiff, ↓reduceIte] <;> rfl) (by simp only [upd_get, ev, Nat.reduceEqDiff, ↓reduceIte] <;> rfl) (by simp only [upd_get, ev, Nat.reduceEqDiff, ↓reduceIte] <;> rfl) Try.isAgg42 Try.sizeOf42 (hB14_2.cellsAll) rfl ?_)
          exact ⟨by rw [getM, if_neg hc1, if_neg hc2, if_neg hc3, if_pos (by simpa using hc4)]; rfl, e8.transN hE14_2 (fun x hx => by omega)⟩

theorem GetR_c {F : Nat → Prop} {v : Value} {xs : List UInt8} (at_ : Int) (w : World) (hv : Bs F w v xs) :
    Calls Try.prog 35 #[v, .int .i64 at_] w fun e w' => e = .returned (.tuple #[cmdV (getM xs at_).1.1 (getM xs at_).1.2.1 ⟨(getM xs at_).1.2.2.toArray⟩, .int .i64 (getM xs at_).2.1, .int .i64 (getM xs at_).2.2]) ∧ Ext0 w w' := by
  have hv' := hv
  obtain ⟨ao, cap, rfl, -, -, -⟩ := hv'.cell
  refine calls_of_CW Try.func35 rfl Try.ntmps35 (Nat.le_of_ble_eq_true rfl) ?_
  simp only [argE, argFrom, Nat.reduceAdd]
  refine CW.seq (fun K1 h1 => ?_)
  refine CW.region ?_
  refine r_alloc rfl Try.zeroValue42 rfl ?_
  intro b0_0 w0_0 hb0_0 hs0_0 hE0_0 hB0_0
  have k0 : Blk w0_0 b0_0 42 (cmdL 0 0 (ByteArray.mk #[])) := hB0_0
  have hv1 := hv.up0 hE0_0
  refine r_assign rfl ?_
  refine r_assign rfl ?_
  refine LW.nil ?_
  refine thenE_norm (h1 _ _ ?_); clear h1; try clear K1
  refine CW.seq (fun K2 h2 => ?_)
  refine CW.region ?_
  refine r_move rfl ?_
  refine r_move rfl ?_
  refine r_call rfl Try.call30 rfl (ByteR_c at_ _ hv1) ?_
  rintro _ w2 ⟨rfl, rfl⟩
  refine ⟨_, rfl, ?_⟩
  refine r_move rfl ?_
  refine r_extract rfl rfl rfl ?_
  refine r_extract rfl rfl rfl ?_
  refine r_extract rfl rfl rfl ?_
  refine r_assign rfl ?_
  refine r_assign rfl ?_
  refine r_assign rfl ?_
  refine LW.nil ?_
  refine thenE_norm ?_
  refine cut (K := K2) [0, 1, 4, 7, 8] (fun σ => ?_)
  simp only [setL, keepE, upd_get, ev, Nat.reduceEqDiff, ↓reduceIte]
  refine h2 _ _ ?_; clear h2; try clear K2
  refine CW.seq (fun K3 h3 => ?_)
  refine CW.seq (fun K4 h4 => ?_)
  refine CW.region ?_
  refine r_move rfl ?_
  refine r_neq rfl rfl rfl ?_
  refine LW.nil ?_
  refine thenE_norm (h4 _ _ ?_); clear h4; try clear K4
  refine CW.cond rfl (fun hc1 => ?_) (fun hc1 => ?_)
  · try simp only [decide_eq_true_eq, decide_eq_false_iff_not, Bool.and_eq_true, Bool.or_eq_true, Bool.and_eq_false_iff, Bool.or_eq_false_iff, Bool.not_eq_true', Bool.not_eq_false', beq_iff_eq, bne_iff_ne] at hc1
    refine CW.seq (fun K5 h5 => ?_)
    refine CW.region ?_
    refine r_build rfl Try.underlying42 Try.zeroValue42 rfl (pl := [(0, 1), (1, 1), (2, 1)]) (by intro w; simp [go_sem]) rfl ?_
    refine r_move rfl ?_
    refine r_storeA Try.sizeOf42 rfl (by simp only [upd_get, ev, Nat.reduceEqDiff, ↓reduceIte] <;> rfl) rfl rfl rfl k0 (by decide) ?_
    intro w3_2 hs3_2 hE3_2 hB3_2
    refine r_assign rfl ?_
    refine r_assign rfl ?_
    refine LW.nil ?_
    refine thenE_norm (h5 _ _ ?_); clear h5; try clear K5
    refine CW.ret (thenE_ret (retC3 Try.results35 (by simp only [upd_get, ev, Nat.reduceEqDiff, ↓reduceIte] <;> rfl) (by simp only [upd_get, ev, Nat.reduceEqDiff, ↓reduceIte] <;> rfl) (by simp only [upd_get, ev, Nat.reduceEqDiff, ↓reduceIte] <;> rfl) Try.isAgg42 Try.sizeOf42 (hB3_2.cellsAll) rfl ?_))
    exact ⟨by rw [getM, if_pos hc1]; rfl, hE0_0.transN hE3_2 (fun x hx => by omega)⟩
  · try simp only [decide_eq_true_eq, decide_eq_false_iff_not, Bool.and_eq_true, Bool.or_eq_true, Bool.and_eq_false_iff, Bool.or_eq_false_iff, Bool.not_eq_true', Bool.not_eq_false', beq_iff_eq, bne_iff_ne] at hc1
    refine CW.skip ?_
    refine thenE_norm (h3 _ _ ?_); clear h3; try clear K3
    refine CW.seq (fun K6 h6 => ?_)
    refine CW.region ?_
    refine r_move rfl ?_
    refine r_move rfl ?_
    refine r_call rfl Try.call26 rfl (NumR_c _ _ hv1) ?_
    rintro _ w4 ⟨rfl, rfl⟩
    refine ⟨_, rfl, ?_⟩
    refine r_move rfl ?_
    refine r_extract rfl rfl rfl ?_
    refine r_extract rfl rfl rfl ?_
    refine r_extract rfl rfl rfl ?_
    refine r_assign rfl ?_
    refine r_assign rfl ?_
    refine r_assign rfl ?_
    refine LW.nil ?_
    refine thenE_norm ?_
    refine cut (K := K6) [0, 1, 4, 7, 8, 9] (fun σ => ?_)
    simp only [setL, keepE, upd_get, ev, Nat.reduceEqDiff, ↓reduceIte]
    refine h6 _ _ ?_; clear h6; try clear K6
    refine CW.seq (fun K7 h7 => ?_)
    refine CW.seq (fun K8 h8 => ?_)
    refine CW.region ?_
    refine r_move rfl ?_
    refine r_neq rfl rfl rfl ?_
    refine LW.nil ?_
    refine thenE_norm (h8 _ _ ?_); clear h8; try clear K8
    refine CW.cond rfl (fun hc2 => ?_) (fun hc2 => ?_)
    · try simp only [decide_eq_true_eq, decide_eq_false_iff_not, Bool.and_eq_true, Bool.or_eq_true, Bool.and_eq_false_iff, Bool.or_eq_false_iff, Bool.not_eq_true', Bool.not_eq_false', beq_iff_eq, bne_iff_ne] at hc2
      refine CW.seq (fun K9 h9 => ?_)
      refine CW.region ?_
      refine r_build rfl Try.underlying42 Try.zeroValue42 rfl (pl := [(0, 1), (1, 1), (2, 1)]) (by intro w; simp [go_sem]) rfl ?_
      refine r_move rfl ?_
      refine r_storeA Try.sizeOf42 rfl (by simp only [upd_get, ev, Nat.reduceEqDiff, ↓reduceIte] <;> rfl) rfl rfl rfl k0 (by decide) ?_
      intro w6_2 hs6_2 hE6_2 hB6_2
      refine r_assign rfl ?_
      refine r_assign rfl ?_
      refine LW.nil ?_
      refine thenE_norm (h9 _ _ ?_); clear h9; try clear K9
      refine CW.ret (thenE_ret (retC3 Try.results35 (by simp only [upd_get, ev, Nat.reduceEqDiff, ↓reduceIte] <;> rfl) (by simp only [upd_get, ev, Nat.reduceEqDiff, ↓reduceIte] <;> rfl) (by simp only [upd_get, ev, Nat.reduceEqDiff, ↓reduceIte] <;> rfl) Try.isAgg42 Try.sizeOf42 (hB6_2.cellsAll) rfl ?_))
      exact ⟨by rw [getM, if_neg hc1, if_pos hc2]; rfl, hE0_0.transN hE6_2 (fun x hx => by omega)⟩
    · try simp only [decide_eq_true_eq, decide_eq_false_iff_not, Bool.and_eq_true, Bool.or_eq_true, Bool.and_eq_false_iff, Bool.or_eq_false_iff, Bool.not_eq_true', Bool.not_eq_false', beq_iff_eq, bne_iff_ne] at hc2
      refine CW.skip ?_
      refine thenE_norm (h7 _ _ ?_); clear h7; try clear K7
      refine CW.seq (fun K10 h10 => ?_)
      refine CW.region ?_
      refine r_move rfl ?_
      refine r_move rfl ?_
      refine r_call rfl Try.call21 rfl (TextR_c _ 12 _ hv1) ?_
      rintro _ w6 ⟨rfl, rfl⟩
      refine ⟨_, rfl, ?_⟩
      refine r_move rfl ?_
      refine r_extract rfl rfl rfl ?_
      refine r_extract rfl rfl rfl ?_
      refine r_extract rfl rfl rfl ?_
      refine r_assign rfl ?_
      refine r_assign rfl ?_
      refine r_assign rfl ?_
      refine LW.nil ?_
      refine thenE_norm ?_
      refine cut (K := K10) [1, 4, 7, 8, 9, 10] (fun σ => ?_)
      simp only [setL, keepE, upd_get, ev, Nat.reduceEqDiff, ↓reduceIte]
      refine h10 _ _ ?_; clear h10; try clear K10
      refine CW.seq (fun K11 h11 => ?_)
      refine CW.seq (fun K12 h12 => ?_)
      refine CW.region ?_
      refine r_move rfl ?_
      refine r_neq rfl rfl rfl ?_
      refine LW.nil ?_
      refine thenE_norm (h12 _ _ ?_); clear h12; try clear K12
      refine CW.cond rfl (fun hc3 => ?_) (fun hc3 => ?_)
      · try simp only [decide_eq_true_eq, decide_eq_false_iff_not, Bool.and_eq_true, Bool.or_eq_true, Bool.and_eq_false_iff, Bool.or_eq_false_iff, Bool.not_eq_true', Bool.not_eq_false', beq_iff_eq, bne_iff_ne] at hc3
        refine CW.seq (fun K13 h13 => ?_)
        refine CW.region ?_
        refine r_build rfl Try.underlying42 Try.zeroValue42 rfl (pl := [(0, 1), (1, 1), (2, 1)]) (by intro w; simp [go_sem]) rfl ?_
        refine r_move rfl ?_
        refine r_storeA Try.sizeOf42 rfl (by simp only [upd_get, ev, Nat.reduceEqDiff, ↓reduceIte] <;> rfl) rfl rfl rfl k0 (by decide) ?_
        intro w9_2 hs9_2 hE9_2 hB9_2
        refine r_assign rfl ?_
        refine r_assign rfl ?_
        refine LW.nil ?_
        refine thenE_norm (h13 _ _ ?_); clear h13; try clear K13
        refine CW.ret (thenE_ret (retC3 Try.results35 (by simp only [upd_get, ev, Nat.reduceEqDiff, ↓reduceIte] <;> rfl) (by simp only [upd_get, ev, Nat.reduceEqDiff, ↓reduceIte] <;> rfl) (by simp only [upd_get, ev, Nat.reduceEqDiff, ↓reduceIte] <;> rfl) Try.isAgg42 Try.sizeOf42 (hB9_2.cellsAll) rfl ?_))
        exact ⟨by rw [getM, if_neg hc1, if_neg hc2, if_pos hc3]; rfl, hE0_0.transN hE9_2 (fun x hx => by omega)⟩
      · try simp only [decide_eq_true_eq, decide_eq_false_iff_not, Bool.and_eq_true, Bool.or_eq_true, Bool.and_eq_false_iff, Bool.or_eq_false_iff, Bool.not_eq_true', Bool.not_eq_false', beq_iff_eq, bne_iff_ne] at hc3
        refine CW.skip ?_
        refine thenE_norm (h11 _ _ ?_); clear h11; try clear K11
        refine CW.seq (fun K14 h14 => ?_)
        refine CW.region ?_
        refine r_move rfl ?_
        refine r_move rfl ?_
        refine r_move rfl ?_
        refine r_build rfl Try.underlying42 Try.zeroValue42 rfl (pl := [(0, 1), (1, 1), (2, 1)]) (by intro w; simp [go_sem]) rfl ?_
        refine r_alloc rfl Try.zeroValue42 rfl ?_
        intro b10_4 w10_4 hb10_4 hs10_4 hE10_4 hB10_4
        have k1 : Blk w10_4 b10_4 42 (cmdL 0 0 (ByteArray.mk #[])) := hB10_4
        have k0 := k0.up0 hE10_4
        refine r_storeA Try.sizeOf42 rfl (by simp only [upd_get, ev, Nat.reduceEqDiff, ↓reduceIte] <;> rfl) rfl rfl rfl k1 (by decide) ?_
        intro w10_5 hs10_5 hE10_5 hB10_5
        have k1 : Blk w10_5 b10_4 42 (cmdL (byteM xs at_).1 (numM xs (byteM xs at_).2.1).1 ⟨(textM xs (numM xs (byteM xs at_).2.1).2.1 12).1.toArray⟩) := hB10_5
        have k0 := k0.up hE10_5 (by have := k0.lt; have := hE0_0.size; omega)
        have e7 : Ext0 w w10_5 := (hE0_0.trans hE10_4).transN hE10_5 (fun x hx => by have := hE0_0.size; omega)
        refine LW.nil ?_
        refine thenE_norm ?_
        refine cut (K := K14) [1, 4, 11] (fun σ => ?_)
        simp only [setL, keepE, upd_get, ev, Nat.reduceEqDiff, ↓reduceIte]
        refine h14 _ _ ?_; clear h14; try clear K14
        refine CW.seq (fun K15 h15 => ?_)
        refine CW.seq (fun K16 h16 => ?_)
        refine CW.region ?_
        refine r_loadA rfl Try.isAgg42 Try.sizeOf42 rfl (k1.cellsAll) rfl ?_
        refine r_call rfl Try.call37 rfl (MayR_c (byteM xs at_).1 (numM xs (byteM xs at_).2.1).1 ⟨(textM xs (numM xs (byteM xs at_).2.1).2.1 12).1.toArray⟩ _) ?_
        rintro _ w8 ⟨rfl, hE8⟩
        refine ⟨_, rfl, ?_⟩
        have k0 := k0.up0 hE8
        have k1 := k1.up0 hE8
        have e8 := e7.trans hE8
        refine r_not rfl rfl ?_
        refine LW.nil ?_
        refine thenE_norm (h16 _ _ ?_); clear h16; try clear K16
        refine CW.cond rfl (fun hc4 => ?_) (fun hc4 => ?_)
        · try simp only [decide_eq_true_eq, decide_eq_false_iff_not, Bool.and_eq_true, Bool.or_eq_true, Bool.and_eq_false_iff, Bool.or_eq_false_iff, Bool.not_eq_true', Bool.not_eq_false', beq_iff_eq, bne_iff_ne] at hc4
          refine CW.seq (fun K17 h17 => ?_)
          refine CW.region ?_
          refine r_build rfl Try.underlying42 Try.zeroValue42 rfl (pl := [(0, 1), (1, 1), (2, 1)]) (by intro w; simp [go_sem]) rfl ?_
          refine r_storeA Try.sizeOf42 rfl (by simp only [upd_get, ev, Nat.reduceEqDiff, ↓reduceIte] <;> rfl) rfl rfl rfl k0 (by decide) ?_
          intro w12_1 hs12_1 hE12_1 hB12_1
          refine r_assign rfl ?_
          refine r_assign rfl ?_
          refine LW.nil ?_
          refine thenE_norm (h17 _ _ ?_); clear h17; try clear K17
          refine CW.ret (thenE_ret (retC3 Try.results35 (by simp only [upd_get, ev, Nat.reduceEqDiff, ↓reduceIte] <;> rfl) (by simp only [upd_get, ev, Nat.reduceEqDiff, ↓reduceIte] <;> rfl) (by simp only [upd_get, ev, Nat.reduceEqDiff, ↓reduceIte] <;> rfl) Try.isAgg42 Try.sizeOf42 (hB12_1.cellsAll) rfl ?_))
          exact ⟨by rw [getM, if_neg hc1, if_neg hc2, if_neg hc3, if_neg (by simpa using hc4)]; rfl, e8.transN hE12_1 (fun x hx => by omega)⟩
        · try simp only [decide_eq_true_eq, decide_eq_false_iff_not, Bool.and_eq_true, Bool.or_eq_true, Bool.and_eq_false_iff, Bool.or_eq_false_iff, Bool.not_eq_true', Bool.not_eq_false', beq_iff_eq, bne_iff_ne] at hc4
          refine CW.skip ?_
          refine thenE_norm (h15 _ _ ?_); clear h15; try clear K15
          refine CW.seq (fun K18 h18 => ?_)
          refine CW.region ?_
          refine r_loadA rfl Try.isAgg42 Try.sizeOf42 rfl (k1.cellsAll) rfl ?_
          refine r_move rfl ?_
          refine r_storeA Try.sizeOf42 rfl (by simp only [upd_get, ev, Nat.reduceEqDiff, ↓reduceIte] <;> rfl) rfl rfl rfl k0 (by decide) ?_
          intro w13_2 hs13_2 hE13_2 hB13_2
          refine r_assign rfl ?_
          refine r_assign rfl ?_
          refine LW.nil ?_
          refine thenE_norm ?_
          refine cut (K := K18) [4, 5, 6] (fun σ => ?_)
          simp only [setL, keepE, upd_get, ev, Nat.reduceEqDiff, ↓reduceIte]
          refine h18 _ _ ?_; clear h18; try clear K18
          refine CW.ret (retC3 Try.results35 (by simp only [upd_get, ev, Nat.reduceEqDiff, ↓reduceIte] <;> rfl) (by simp only [upd_get, ev, Nat.reduceEqDiff, ↓reduceIte] <;> rfl) (by simp only [upd_get, ev, Nat.reduceEqDiff, ↓reduceIte] <;> rfl) Try.isAgg42 Try.sizeOf42 (hB13_2.cellsAll) rfl ?_)
          exact ⟨by rw [getM, if_neg hc1, if_neg hc2, if_neg hc3, if_pos (by simpa using hc4)]; rfl, e8.transN hE13_2 (fun x hx => by omega)⟩
end Go.Proofs.Ytgcmafgcigipdaa
