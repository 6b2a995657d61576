/-
  What Conf makes of bytes
-/
import Derived.Test.YtgmmbdmdimkfjaaGreatPI34
import Derived.Test.YtgmmbdmdimkfjaaGreatPI05
namespace Go.Proofs.YtgmmbdmdimkfjaaGreat
set_option linter.unusedSimpArgs false
set_option linter.unusedVariables false
set_option maxRecDepth 20000
open Go.V Go.RowKit Go.ChangeShapes Go.WideShapes
def cfS (s0 s1 s2 s3 s4 s5 s6 s7 s8 s9 : Int) : Nat → Int
  | 0 => s0
  | 1 => s1
  | 2 => s2
  | 3 => s3
  | 4 => s4
  | 5 => s5
  | 6 => s6
  | 7 => s7
  | 8 => s8
  | 9 => s9
  | _ => 0
theorem facts_of {s0 s1 s2 s3 s4 s5 s6 s7 s8 s9 : Int} (h : 1 ≤ s0 ∧ s0 ≤ 5 ∧ 1 ≤ s1 ∧ s1 ≤ 1000 ∧ 0 ≤ s2 ∧ s2 ≤ 200 ∧ 1 ≤ s3 ∧ s3 ≤ 20 ∧ s3 ≤ s4 ∧ s4 ≤ 100 ∧ 1 ≤ s5 ∧ s5 ≤ 100 ∧ 0 ≤ s6 ∧ s6 ≤ 100 ∧ 1 ≤ s7 ∧ s7 ≤ 100 ∧ 1 ≤ s8 ∧ s8 ≤ 100 ∧ 1 ≤ s9 ∧ s9 ≤ 100) : FactsC (cfS s0 s1 s2 s3 s4 s5 s6 s7 s8 s9) := by
  simp only [FactsC, factsC, btw, List.cons_append, List.nil_append, List.forall_mem_cons, BT.ev, IT.ev, cfS, decide_eq_true_eq, decide_eq_false_iff_not]
  repeat' apply And.intro
  all_goals first | omega | (intro q hq; cases hq)
theorem six_ok (j : Int) (h0 : 0 ≤ j) (h6 : j < 6) : ∃ x : Nat, ([3, 1, 5, 3, 7, 3] : List Int)[j.toNat]? = some (x : Int) ∧ okR x := by
  rcases (by omega : j = 0 ∨ j = 1 ∨ j = 2 ∨ j = 3 ∨ j = 4 ∨ j = 5) with rfl | rfl | rfl | rfl | rfl | rfl
  · exact ⟨3, rfl, .inr (.inl rfl)⟩
  · exact ⟨1, rfl, .inl rfl⟩
  · exact ⟨5, rfl, .inr (.inr (.inl rfl))⟩
  · exact ⟨3, rfl, .inr (.inl rfl)⟩
  · exact ⟨7, rfl, .inr (.inr (.inr rfl))⟩
  · exact ⟨3, rfl, .inr (.inl rfl)⟩
set_option maxHeartbeats 4000000 in
theorem Conf_c {F : Nat → Prop} {v : Value} {bs : List UInt8} (w : World) (hv : Rs F w v bs) : Calls Tryz.prog 14 #[v] w fun e w' => ∃ (R : Nat) (s0 s1 s2 s3 s4 s5 s6 s7 s8 s9 : Int), okR R ∧ (1 ≤ s0 ∧ s0 ≤ 5 ∧ 1 ≤ s1 ∧ s1 ≤ 1000 ∧ 0 ≤ s2 ∧ s2 ≤ 200 ∧ 1 ≤ s3 ∧ s3 ≤ 20 ∧ s3 ≤ s4 ∧ s4 ≤ 100 ∧ 1 ≤ s5 ∧ s5 ≤ 100 ∧ 0 ≤ s6 ∧ s6 ≤ 100 ∧ 1 ≤ s7 ∧ s7 ≤ 100 ∧ 1 ≤ s8 ∧ s8 ≤ 100 ∧ 1 ≤ s9 ∧ s9 ≤ 100) ∧ e = .returned (confV R (cfS s0 s1 s2 s3 s4 s5 s6 s7 s8 s9)) ∧ Ext0 w w' := by
  have H := (SH.start (U := Non) (G := Any) w).arg hv
  have h63 := hv.len63
  refine calls_of_CW Tryz.func14 rfl Tryz.ntmps14 (Nat.le_of_ble_eq_true rfl) ?_
  simp only [argE, argFrom, Nat.reduceAdd]
  refine CW.seq fun K1 h1 => zr ?_
  refine s_alloc (cs := [.int .i64 0, .int .i64 0, .int .i64 0, .int .i64 0, .int .i64 0, .int .i64 0, .int .i64 0, .int .i64 0, .int .i64 0, .int .i64 0, .int .i64 0]) H rfl Tryz.zeroValue24 rfl ?_
  clear H
  intro b0_0 w0_0 H
  try dsimp only [replC, List.cons_append, List.nil_append, List.append_nil, agg, cellsL, Value.cells, List.toList_toArray, List.set_cons_zero, List.set_cons_succ, spliceL, List.take_succ_cons, List.take_zero, List.drop_succ_cons, List.drop_zero, List.length_cons, List.length_nil, Nat.reduceAdd, Row.cells, Flight.L, Hd.L, Snd.L, Ev.L] at H
  refine LW.nil ?_
  refine thenE_norm (h1 _ _ ?_); clear h1; try clear K1
  refine CW.seq fun K2 h2 => zr ?_
  refine zg (zk (r_buildQ rfl Tryz.underlying24 Tryz.zeroValue24 rfl (pl := [(0, 1), (1, 1), (2, 1), (3, 1), (4, 1), (5, 1), (6, 1), (7, 1), (8, 1), (9, 1), (10, 1)]) (by intro w; simp [go_sem]) (qs := [(0, [.int .i64 3]), (1, [.int .i64 3]), (2, [.int .i64 60]), (3, [.int .i64 100]), (4, [.int .i64 10]), (5, [.int .i64 40]), (6, [.int .i64 3]), (7, [.int .i64 1]), (8, [.int .i64 5]), (9, [.int .i64 6]), (10, [.int .i64 8])]) (cs := [.int .i64 3, .int .i64 3, .int .i64 60, .int .i64 100, .int .i64 10, .int .i64 40, .int .i64 3, .int .i64 1, .int .i64 5, .int .i64 6, .int .i64 8]) ⟨rfl, cells_one rfl rfl, rfl, cells_one rfl rfl, rfl, cells_one rfl rfl, rfl, cells_one rfl rfl, rfl, cells_one rfl rfl, rfl, cells_one rfl rfl, rfl, cells_one rfl rfl, rfl, cells_one rfl rfl, rfl, cells_one rfl rfl, rfl, cells_one rfl rfl, rfl, cells_one rfl rfl, trivial⟩ (by kernel_rfl))) ?_
  refine s_alloc (cs := [.int .i64 0, .int .i64 0, .int .i64 0, .int .i64 0, .int .i64 0, .int .i64 0, .int .i64 0, .int .i64 0, .int .i64 0, .int .i64 0, .int .i64 0]) H rfl Tryz.zeroValue24 rfl ?_
  clear H
  intro b1_1 w1_1 H
  try dsimp only [replC, List.cons_append, List.nil_append, List.append_nil, agg, cellsL, Value.cells, List.toList_toArray, List.set_cons_zero, List.set_cons_succ, spliceL, List.take_succ_cons, List.take_zero, List.drop_succ_cons, List.drop_zero, List.length_cons, List.length_nil, Nat.reduceAdd, Row.cells, Flight.L, Hd.L, Snd.L, Ev.L] at H
  refine s_storeA H Tryz.sizeOf24 rfl EV (by simp only [cellsL, agg, List.toList_toArray, Row.cells, Flight.L, Hd.L, Snd.L, Ev.L] <;> rfl) (by rfl) (by first | rfl | assumption | exact Rs.oneC RS | (simp only [List.all_cons, List.all_nil, Bool.and_true, Bool.and_eq_true, Row.cells, Flight.L, Hd.L, Snd.L, Ev.L]; (repeat' constructor) <;> first | rfl | assumption | exact Rs.oneC RS)) AT (by first | (simp; done) | decide | (show _ ≤ _; decide)) ?_
  clear H
  intro w1_2 H
  try dsimp only [replC, List.cons_append, List.nil_append, List.append_nil, agg, cellsL, Value.cells, List.toList_toArray, List.set_cons_zero, List.set_cons_succ, spliceL, List.take_succ_cons, List.take_zero, List.drop_succ_cons, List.drop_zero, List.length_cons, List.length_nil, Nat.reduceAdd, Row.cells, Flight.L, Hd.L, Snd.L, Ev.L] at H
  refine LW.nil ?_
  refine thenE_norm (h2 _ _ ?_); clear h2; try clear K2
  refine CW.seq (fun K3 h3 => ?_)
  refine CW.seq fun K4 h4 => zr ?_
  refine zg iA (zn h4 ?_); try clear h4
  refine CW.block ?_
  refine CW.loopR [0, 2, 3] [4] (fun m vs w' => ∃ (i : Nat) (R : Nat) (s0 s1 s2 s3 s4 s5 s6 s7 s8 s9 : Int), vs = [.int .i64 i] ∧ i ≤ bs.length ∧ m = bs.length - i ∧ okR R ∧ (1 ≤ s0 ∧ s0 ≤ 5 ∧ 1 ≤ s1 ∧ s1 ≤ 1000 ∧ 0 ≤ s2 ∧ s2 ≤ 200 ∧ 1 ≤ s3 ∧ s3 ≤ 20 ∧ s3 ≤ s4 ∧ s4 ≤ 100 ∧ 1 ≤ s5 ∧ s5 ≤ 100 ∧ 0 ≤ s6 ∧ s6 ≤ 100 ∧ 1 ≤ s7 ∧ s7 ≤ 100 ∧ 1 ≤ s8 ∧ s8 ≤ 100 ∧ 1 ≤ s9 ∧ s9 ≤ 100) ∧ (3 < i ∨ s4 = 40) ∧ SH Non Any w w' [.R (Old w) v bs, .B b0_0 24 (List.replicate 11 (.int .i64 0)), .B b1_1 24 [.int .i64 R, .int .i64 s0, .int .i64 s1, .int .i64 s2, .int .i64 s3, .int .i64 s4, .int .i64 s5, .int .i64 s6, .int .i64 s7, .int .i64 s8, .int .i64 s9]]) (bs.length) ?_ ?_
  · exact ⟨0, 3, 3, 60, 100, 10, 40, 3, 1, 5, 6, 8, rfl, by omega, by omega, .inr (.inl rfl), by decide, .inr rfl, H⟩
  try clear H
  rintro n1 vs1 wL1 σ ⟨i, R, s0, s1, s2, s3, s4, s5, s6, s7, s8, s9, rfl, hi, rfl, hR, hs, hs4, H⟩
  refine zg zm ?_
  refine CW.seq (fun K5 h5 => ?_)
  refine CW.seq fun K6 h6 => zr ?_
  refine zg (zt iM (zt iM (zt iVV (zt ilt iM)))) ?_
  refine' LW.grpAnd (n := 3) (ts := [0, 2, 3, 4]) (d := 14) (tj := 11) rfl (fun hg3_5 => ?_) (fun hg3_5 => ?_) (fun σ => ?_)
  rotate_left
  · simp only [List.take_succ_cons, List.take_zero]
    have hg3_5P := hg3_5
    try simp only [zd] at hg3_5P
    refine LW.want rfl rfl hg3_5 ?_
    refine zg iM ?_
    refine LW.want rfl rfl hg3_5 ?_
    refine zg ilt ?_
    refine zg (zk (r_pickT rfl rfl hg3_5)) ?_
    refine LW.nil (thenE_norm ⟨rfl, rfl, rfl⟩)
  · simp only [List.take_succ_cons, List.take_zero]
    refine LW.skip rfl (fun _ e => by cases e; decide) rfl hg3_5 ?_
    refine LW.skip rfl (fun _ e => by cases e; decide) rfl hg3_5 ?_
    refine zg (zk (r_pickF rfl rfl hg3_5)) ?_
    refine LW.nil (thenE_norm ⟨rfl, rfl, rfl⟩)
  simp only [setL, keepE, upd_get, ev, Nat.reduceEqDiff, ↓reduceIte]; simp only [List.drop_succ_cons, List.drop_zero]
  refine LW.nil ?_
  refine thenE_norm (h6 _ _ ?_); clear h6; try clear K6
  refine CW.cond rfl (fun hc1 => ?_) (fun hc1 => ?_)
  · try simp only [zb] at hc1
    refine CW.skip ?_
    refine thenE_norm (h5 _ _ ?_); clear h5; try clear K5
    refine CW.seq (fun K7 h7 => ?_)
    refine CW.block ?_
    refine CW.seq (fun K8 h8 => ?_)
    obtain ⟨x, hx⟩ := get_of_lt (show i < bs.length by omega)
    have hx256 := x.toNat_lt
    obtain ⟨hs0a, hs0b, hs1a, hs1b, hs2a, hs2b, hs3a, hs3b, hs4a, hs4b, hs5a, hs5b, hs6a, hs6b, hs7a, hs7b, hs8a, hs8b, hs9a, hs9b⟩ := hs
    refine CW.region ?_
    refine zg (zt iM (zt iM (zt iI (zt iL (zt iW iA))))) (zn h8 ?_); try clear h8
    refine CW.seq fun K9 h9 => zr ?_
    refine zg iM (zn h9 ?_); try clear h9
    refine CW.block ?_
    refine CW.seq fun K10 h10 => zr ?_
    refine zg (zt ieq iA) (zc [0, 2, 3, 4, 5, 22, 26] h10 fun σ => zg zm ?_); try clear h10
    refine CW.cond rfl (fun hc2 => ?_) (fun hc2 => ?_)
    · try simp only [zb] at hc2
      obtain ⟨y, hy, hyR⟩ := six_ok ((x.toNat : Int) % 6) (by omega) (by omega)
      have h66 : ([3, 1, 5, 3, 7, 3] : List Int).length = 6 := rfl
      refine CW.region ?_
      refine r_buildSlice rfl Tryz.underlying38 Tryz.sizeOf3 Tryz.zeroValue3 rfl rfl rfl BV ?_
      intro b9_0 w9_0 hb9_0 hs9_0 hE9_0 hB9_0
      replace H := SH.call H (SH.fromB hE9_0 hb9_0 hs9_0 hB9_0)
      clear hb9_0 hs9_0 hE9_0 hB9_0
      try dsimp only [replC, List.cons_append, List.nil_append, List.append_nil, agg, cellsL, Value.cells, List.toList_toArray, List.set_cons_zero, List.set_cons_succ, spliceL, List.take_succ_cons, List.take_zero, List.drop_succ_cons, List.drop_zero, List.length_cons, List.length_nil, Nat.reduceAdd, Row.cells, Flight.L, Hd.L, Snd.L, Ev.L] at H
      replace H := SH.row (b := b9_0) (xs := ([_, _, _, _, _, _] : List Int)) (n := 6) (cap := 6) H AT (by rfl) (by intro x hx; first | rfl | (simp at hx; done) | (simp only [List.mem_cons, List.not_mem_nil, or_false] at hx; rcases hx with rfl | rfl | rfl | rfl | rfl | rfl <;> first | rfl | exact (by first | rfl | assumption | exact Rs.oneC RS | (simp only [List.all_cons, List.all_nil, Bool.and_true, Bool.and_eq_true, Row.cells, Flight.L, Hd.L, Snd.L, Ev.L]; (repeat' constructor) <;> first | rfl | assumption | exact Rs.oneC RS)))) (by rfl) rfl (by decide)
      try dsimp only [replC, List.cons_append, List.nil_append, List.append_nil, agg, cellsL, Value.cells, List.toList_toArray, List.set_cons_zero, List.set_cons_succ, spliceL, List.take_succ_cons, List.take_zero, List.drop_succ_cons, List.drop_zero, List.length_cons, List.length_nil, Nat.reduceAdd, Row.cells, Flight.L, Hd.L, Snd.L, Ev.L] at H
      refine zg iM ?_
      refine zg (zt (zk (r_rem rfl rfl rfl (by omega) (by omega) (wr_i64 (by omega) (by omega)))) (zt iI (zt iL (fA 0)))) ?_
      refine s_store H Tryz.sizeOf3 rfl EV (by first | rfl | assumption | exact Rs.oneC RS | (simp only [List.all_cons, List.all_nil, Bool.and_true, Bool.and_eq_true, Row.cells, Flight.L, Hd.L, Snd.L, Ev.L]; (repeat' constructor) <;> first | rfl | assumption | exact Rs.oneC RS)) AT (by first | (simp; done) | decide | omega) ?_
      clear H
      intro w9_6 H
      try dsimp only [replC, List.cons_append, List.nil_append, List.append_nil, agg, cellsL, Value.cells, List.toList_toArray, List.set_cons_zero, List.set_cons_succ, spliceL, List.take_succ_cons, List.take_zero, List.drop_succ_cons, List.drop_zero, List.length_cons, List.length_nil, Nat.reduceAdd, Row.cells, Flight.L, Hd.L, Snd.L, Ev.L] at H
      refine LW.nil ?_
      refine blockE_norm ?_
      refine blockE_norm ?_
      refine thenE_norm (h7 _ _ ?_); clear h7; try clear K7
      refine CW.region ?_
      refine zg (zt iM (zt iP iA)) ?_
      refine LW.nil ?_
      refine thenE_norm ⟨rfl, ?_⟩
      exact ⟨_, by omega, i + 1, y, _, _, _, _, _, _, _, _, _, _, rfl, by omega, rfl, hyR, (by refine ⟨?_, ?_, ?_, ?_, ?_, ?_, ?_, ?_, ?_, ?_, ?_, ?_, ?_, ?_, ?_, ?_, ?_, ?_, ?_, ?_⟩ <;> first | assumption | omega), by omega, SH.sel H [0, 1, 2] (by decide) rfl⟩
    · try simp only [zb] at hc2
      refine CW.seq fun K11 h11 => zr ?_
      refine zg (zt ieq iA) (zn h11 ?_); try clear h11
      refine CW.cond rfl (fun hc3 => ?_) (fun hc3 => ?_)
      · try simp only [zb] at hc3
        refine CW.region ?_
        refine zg iM ?_
        refine zg (zt (zk (r_rem rfl rfl rfl (by omega) (by omega) (wr_i64 (by omega) (by omega)))) (zt iP (fA 1))) ?_
        refine s_store H Tryz.sizeOf3 rfl EV (by first | rfl | assumption | exact Rs.oneC RS | (simp only [List.all_cons, List.all_nil, Bool.and_true, Bool.and_eq_true, Row.cells, Flight.L, Hd.L, Snd.L, Ev.L]; (repeat' constructor) <;> first | rfl | assumption | exact Rs.oneC RS)) AT (by first | (simp; done) | decide | omega) ?_
        clear H
        intro w11_4 H
        try dsimp only [replC, List.cons_append, List.nil_append, List.append_nil, agg, cellsL, Value.cells, List.toList_toArray, List.set_cons_zero, List.set_cons_succ, spliceL, List.take_succ_cons, List.take_zero, List.drop_succ_cons, List.drop_zero, List.length_cons, List.length_nil, Nat.reduceAdd, Row.cells, Flight.L, Hd.L, Snd.L, Ev.L] at H
        refine LW.nil ?_
        refine blockE_norm ?_
        refine blockE_norm ?_
        refine thenE_norm (h7 _ _ ?_); clear h7; try clear K7
        refine CW.region ?_
        refine zg (zt iM (zt iP iA)) ?_
        refine LW.nil ?_
        refine thenE_norm ⟨rfl, ?_⟩
        exact ⟨_, by omega, i + 1, R, _, _, _, _, _, _, _, _, _, _, rfl, by omega, rfl, hR, (by refine ⟨?_, ?_, ?_, ?_, ?_, ?_, ?_, ?_, ?_, ?_, ?_, ?_, ?_, ?_, ?_, ?_, ?_, ?_, ?_, ?_⟩ <;> first | assumption | omega), by omega, SH.sel H [0, 1, 2] (by decide) rfl⟩
      · try simp only [zb] at hc3
        refine CW.seq fun K12 h12 => zr ?_
        refine zg (zt ieq iA) (zn h12 ?_); try clear h12
        refine CW.cond rfl (fun hc4 => ?_) (fun hc4 => ?_)
        · try simp only [zb] at hc4
          refine CW.region ?_
          refine zg iM ?_
          refine zg (zt (zk (r_rem rfl rfl rfl (by omega) (by omega) (wr_i64 (by omega) (by omega)))) (zt iP (fA 4))) ?_
          refine s_store H Tryz.sizeOf3 rfl EV (by first | rfl | assumption | exact Rs.oneC RS | (simp only [List.all_cons, List.all_nil, Bool.and_true, Bool.and_eq_true, Row.cells, Flight.L, Hd.L, Snd.L, Ev.L]; (repeat' constructor) <;> first | rfl | assumption | exact Rs.oneC RS)) AT (by first | (simp; done) | decide | omega) ?_
          clear H
          intro w13_4 H
          try dsimp only [replC, List.cons_append, List.nil_append, List.append_nil, agg, cellsL, Value.cells, List.toList_toArray, List.set_cons_zero, List.set_cons_succ, spliceL, List.take_succ_cons, List.take_zero, List.drop_succ_cons, List.drop_zero, List.length_cons, List.length_nil, Nat.reduceAdd, Row.cells, Flight.L, Hd.L, Snd.L, Ev.L] at H
          refine LW.nil ?_
          refine blockE_norm ?_
          refine blockE_norm ?_
          refine thenE_norm (h7 _ _ ?_); clear h7; try clear K7
          refine CW.region ?_
          refine zg (zt iM (zt iP iA)) ?_
          refine LW.nil ?_
          refine thenE_norm ⟨rfl, ?_⟩
          exact ⟨_, by omega, i + 1, R, _, _, _, _, _, _, _, _, _, _, rfl, by omega, rfl, hR, (by refine ⟨?_, ?_, ?_, ?_, ?_, ?_, ?_, ?_, ?_, ?_, ?_, ?_, ?_, ?_, ?_, ?_, ?_, ?_, ?_, ?_⟩ <;> first | assumption | omega), by omega, SH.sel H [0, 1, 2] (by decide) rfl⟩
        · try simp only [zb] at hc4
          refine CW.seq fun K13 h13 => zr ?_
          refine zg (zt ieq iA) (zn h13 ?_); try clear h13
          refine CW.cond rfl (fun hc5 => ?_) (fun hc5 => ?_)
          · try simp only [zb] at hc5
            refine CW.region ?_
            refine zg (zt (fA 4) (zt iL iM)) ?_
            refine zg (zt (zk (r_rem rfl rfl rfl (by omega) (by omega) (wr_i64 (by omega) (by omega)))) (zt iP (fA 5))) ?_
            refine s_store H Tryz.sizeOf3 rfl EV (by first | rfl | assumption | exact Rs.oneC RS | (simp only [List.all_cons, List.all_nil, Bool.and_true, Bool.and_eq_true, Row.cells, Flight.L, Hd.L, Snd.L, Ev.L]; (repeat' constructor) <;> first | rfl | assumption | exact Rs.oneC RS)) AT (by first | (simp; done) | decide | omega) ?_
            clear H
            intro w15_6 H
            try dsimp only [replC, List.cons_append, List.nil_append, List.append_nil, agg, cellsL, Value.cells, List.toList_toArray, List.set_cons_zero, List.set_cons_succ, spliceL, List.take_succ_cons, List.take_zero, List.drop_succ_cons, List.drop_zero, List.length_cons, List.length_nil, Nat.reduceAdd, Row.cells, Flight.L, Hd.L, Snd.L, Ev.L] at H
            refine LW.nil ?_
            refine blockE_norm ?_
            refine blockE_norm ?_
            refine thenE_norm (h7 _ _ ?_); clear h7; try clear K7
            refine CW.region ?_
            refine zg (zt iM (zt iP iA)) ?_
            refine LW.nil ?_
            refine thenE_norm ⟨rfl, ?_⟩
            exact ⟨_, by omega, i + 1, R, _, _, _, _, _, _, _, _, _, _, rfl, by omega, rfl, hR, (by refine ⟨?_, ?_, ?_, ?_, ?_, ?_, ?_, ?_, ?_, ?_, ?_, ?_, ?_, ?_, ?_, ?_, ?_, ?_, ?_, ?_⟩ <;> first | assumption | omega), by omega, SH.sel H [0, 1, 2] (by decide) rfl⟩
          · try simp only [zb] at hc5
            refine CW.seq fun K14 h14 => zr ?_
            refine zg (zt ieq iA) (zc [0, 2, 3, 4, 5, 22, 54] h14 fun σ => zg zm ?_); try clear h14
            refine CW.cond rfl (fun hc6 => ?_) (fun hc6 => ?_)
            · try simp only [zb] at hc6
              refine CW.region ?_
              refine zg iM ?_
              refine zg (zt (zk (r_rem rfl rfl rfl (by omega) (by omega) (wr_i64 (by omega) (by omega)))) (zt iP (fA 6))) ?_
              refine s_store H Tryz.sizeOf3 rfl EV (by first | rfl | assumption | exact Rs.oneC RS | (simp only [List.all_cons, List.all_nil, Bool.and_true, Bool.and_eq_true, Row.cells, Flight.L, Hd.L, Snd.L, Ev.L]; (repeat' constructor) <;> first | rfl | assumption | exact Rs.oneC RS)) AT (by first | (simp; done) | decide | omega) ?_
              clear H
              intro w17_4 H
              try dsimp only [replC, List.cons_append, List.nil_append, List.append_nil, agg, cellsL, Value.cells, List.toList_toArray, List.set_cons_zero, List.set_cons_succ, spliceL, List.take_succ_cons, List.take_zero, List.drop_succ_cons, List.drop_zero, List.length_cons, List.length_nil, Nat.reduceAdd, Row.cells, Flight.L, Hd.L, Snd.L, Ev.L] at H
              refine LW.nil ?_
              refine blockE_norm ?_
              refine blockE_norm ?_
              refine thenE_norm (h7 _ _ ?_); clear h7; try clear K7
              refine CW.region ?_
              refine zg (zt iM (zt iP iA)) ?_
              refine LW.nil ?_
              refine thenE_norm ⟨rfl, ?_⟩
              exact ⟨_, by omega, i + 1, R, _, _, _, _, _, _, _, _, _, _, rfl, by omega, rfl, hR, (by refine ⟨?_, ?_, ?_, ?_, ?_, ?_, ?_, ?_, ?_, ?_, ?_, ?_, ?_, ?_, ?_, ?_, ?_, ?_, ?_, ?_⟩ <;> first | assumption | omega), by omega, SH.sel H [0, 1, 2] (by decide) rfl⟩
            · try simp only [zb] at hc6
              refine CW.seq fun K15 h15 => zr ?_
              refine zg (zt ieq iA) (zn h15 ?_); try clear h15
              refine CW.cond rfl (fun hc7 => ?_) (fun hc7 => ?_)
              · try simp only [zb] at hc7
                refine CW.region ?_
                refine zg iM ?_
                refine zg (zt (zk (r_rem rfl rfl rfl (by omega) (by omega) (wr_i64 (by omega) (by omega)))) (fA 7)) ?_
                refine s_store H Tryz.sizeOf3 rfl EV (by first | rfl | assumption | exact Rs.oneC RS | (simp only [List.all_cons, List.all_nil, Bool.and_true, Bool.and_eq_true, Row.cells, Flight.L, Hd.L, Snd.L, Ev.L]; (repeat' constructor) <;> first | rfl | assumption | exact Rs.oneC RS)) AT (by first | (simp; done) | decide | omega) ?_
                clear H
                intro w19_3 H
                try dsimp only [replC, List.cons_append, List.nil_append, List.append_nil, agg, cellsL, Value.cells, List.toList_toArray, List.set_cons_zero, List.set_cons_succ, spliceL, List.take_succ_cons, List.take_zero, List.drop_succ_cons, List.drop_zero, List.length_cons, List.length_nil, Nat.reduceAdd, Row.cells, Flight.L, Hd.L, Snd.L, Ev.L] at H
                refine LW.nil ?_
                refine blockE_norm ?_
                refine blockE_norm ?_
                refine thenE_norm (h7 _ _ ?_); clear h7; try clear K7
                refine CW.region ?_
                refine zg (zt iM (zt iP iA)) ?_
                refine LW.nil ?_
                refine thenE_norm ⟨rfl, ?_⟩
                exact ⟨_, by omega, i + 1, R, _, _, _, _, _, _, _, _, _, _, rfl, by omega, rfl, hR, (by refine ⟨?_, ?_, ?_, ?_, ?_, ?_, ?_, ?_, ?_, ?_, ?_, ?_, ?_, ?_, ?_, ?_, ?_, ?_, ?_, ?_⟩ <;> first | assumption | omega), by omega, SH.sel H [0, 1, 2] (by decide) rfl⟩
              · try simp only [zb] at hc7
                refine CW.seq fun K16 h16 => zr ?_
                refine zg (zt ieq iA) (zn h16 ?_); try clear h16
                refine CW.cond rfl (fun hc8 => ?_) (fun hc8 => ?_)
                · try simp only [zb] at hc8
                  refine CW.region ?_
                  refine zg iM ?_
                  refine zg (zt (zk (r_rem rfl rfl rfl (by omega) (by omega) (wr_i64 (by omega) (by omega)))) (zt iP (fA 8))) ?_
                  refine s_store H Tryz.sizeOf3 rfl EV (by first | rfl | assumption | exact Rs.oneC RS | (simp only [List.all_cons, List.all_nil, Bool.and_true, Bool.and_eq_true, Row.cells, Flight.L, Hd.L, Snd.L, Ev.L]; (repeat' constructor) <;> first | rfl | assumption | exact Rs.oneC RS)) AT (by first | (simp; done) | decide | omega) ?_
                  clear H
                  intro w21_4 H
                  try dsimp only [replC, List.cons_append, List.nil_append, List.append_nil, agg, cellsL, Value.cells, List.toList_toArray, List.set_cons_zero, List.set_cons_succ, spliceL, List.take_succ_cons, List.take_zero, List.drop_succ_cons, List.drop_zero, List.length_cons, List.length_nil, Nat.reduceAdd, Row.cells, Flight.L, Hd.L, Snd.L, Ev.L] at H
                  refine LW.nil ?_
                  refine blockE_norm ?_
                  refine blockE_norm ?_
                  refine thenE_norm (h7 _ _ ?_); clear h7; try clear K7
                  refine CW.region ?_
                  refine zg (zt iM (zt iP iA)) ?_
                  refine LW.nil ?_
                  refine thenE_norm ⟨rfl, ?_⟩
                  exact ⟨_, by omega, i + 1, R, _, _, _, _, _, _, _, _, _, _, rfl, by omega, rfl, hR, (by refine ⟨?_, ?_, ?_, ?_, ?_, ?_, ?_, ?_, ?_, ?_, ?_, ?_, ?_, ?_, ?_, ?_, ?_, ?_, ?_, ?_⟩ <;> first | assumption | omega), by omega, SH.sel H [0, 1, 2] (by decide) rfl⟩
                · try simp only [zb] at hc8
                  refine CW.seq fun K17 h17 => zr ?_
                  refine zg (zt ieq iA) (zn h17 ?_); try clear h17
                  refine CW.cond rfl (fun hc9 => ?_) (fun hc9 => ?_)
                  · try simp only [zb] at hc9
                    refine CW.region ?_
                    refine zg iM ?_
                    refine zg (zt (zk (r_rem rfl rfl rfl (by omega) (by omega) (wr_i64 (by omega) (by omega)))) (zt iP (fA 9))) ?_
                    refine s_store H Tryz.sizeOf3 rfl EV (by first | rfl | assumption | exact Rs.oneC RS | (simp only [List.all_cons, List.all_nil, Bool.and_true, Bool.and_eq_true, Row.cells, Flight.L, Hd.L, Snd.L, Ev.L]; (repeat' constructor) <;> first | rfl | assumption | exact Rs.oneC RS)) AT (by first | (simp; done) | decide | omega) ?_
                    clear H
                    intro w23_4 H
                    try dsimp only [replC, List.cons_append, List.nil_append, List.append_nil, agg, cellsL, Value.cells, List.toList_toArray, List.set_cons_zero, List.set_cons_succ, spliceL, List.take_succ_cons, List.take_zero, List.drop_succ_cons, List.drop_zero, List.length_cons, List.length_nil, Nat.reduceAdd, Row.cells, Flight.L, Hd.L, Snd.L, Ev.L] at H
                    refine LW.nil ?_
                    refine blockE_norm ?_
                    refine blockE_norm ?_
                    refine thenE_norm (h7 _ _ ?_); clear h7; try clear K7
                    refine CW.region ?_
                    refine zg (zt iM (zt iP iA)) ?_
                    refine LW.nil ?_
                    refine thenE_norm ⟨rfl, ?_⟩
                    exact ⟨_, by omega, i + 1, R, _, _, _, _, _, _, _, _, _, _, rfl, by omega, rfl, hR, (by refine ⟨?_, ?_, ?_, ?_, ?_, ?_, ?_, ?_, ?_, ?_, ?_, ?_, ?_, ?_, ?_, ?_, ?_, ?_, ?_, ?_⟩ <;> first | assumption | omega), by omega, SH.sel H [0, 1, 2] (by decide) rfl⟩
                  · try simp only [zb] at hc9
                    refine CW.seq fun K18 h18 => zr ?_
                    refine zg (zt ieq iA) (zc [0, 2, 3, 4, 5, 22, 77] h18 fun σ => zg zm ?_); try clear h18
                    refine CW.cond rfl (fun hc10 => ?_) (fun hc10 => ?_)
                    · try simp only [zb] at hc10
                      refine CW.region ?_
                      refine zg iM ?_
                      refine zg (zt (zk (r_rem rfl rfl rfl (by omega) (by omega) (wr_i64 (by omega) (by omega)))) (zt iP (fA 10))) ?_
                      refine s_store H Tryz.sizeOf3 rfl EV (by first | rfl | assumption | exact Rs.oneC RS | (simp only [List.all_cons, List.all_nil, Bool.and_true, Bool.and_eq_true, Row.cells, Flight.L, Hd.L, Snd.L, Ev.L]; (repeat' constructor) <;> first | rfl | assumption | exact Rs.oneC RS)) AT (by first | (simp; done) | decide | omega) ?_
                      clear H
                      intro w25_4 H
                      try dsimp only [replC, List.cons_append, List.nil_append, List.append_nil, agg, cellsL, Value.cells, List.toList_toArray, List.set_cons_zero, List.set_cons_succ, spliceL, List.take_succ_cons, List.take_zero, List.drop_succ_cons, List.drop_zero, List.length_cons, List.length_nil, Nat.reduceAdd, Row.cells, Flight.L, Hd.L, Snd.L, Ev.L] at H
                      refine LW.nil ?_
                      refine blockE_norm ?_
                      refine blockE_norm ?_
                      refine thenE_norm (h7 _ _ ?_); clear h7; try clear K7
                      refine CW.region ?_
                      refine zg (zt iM (zt iP iA)) ?_
                      refine LW.nil ?_
                      refine thenE_norm ⟨rfl, ?_⟩
                      exact ⟨_, by omega, i + 1, R, _, _, _, _, _, _, _, _, _, _, rfl, by omega, rfl, hR, (by refine ⟨?_, ?_, ?_, ?_, ?_, ?_, ?_, ?_, ?_, ?_, ?_, ?_, ?_, ?_, ?_, ?_, ?_, ?_, ?_, ?_⟩ <;> first | assumption | omega), by omega, SH.sel H [0, 1, 2] (by decide) rfl⟩
                    · try simp only [zb] at hc10
                      refine CW.seq fun K19 h19 => zr ?_
                      refine zg (zt ieq iA) (zn h19 ?_); try clear h19
                      refine CW.cond rfl (fun hc11 => ?_) (fun hc11 => ?_)
                      · try simp only [zb] at hc11
                        refine CW.region ?_
                        refine zg (zt iM (zt iP (fA 2))) ?_
                        refine s_store H Tryz.sizeOf3 rfl EV (by first | rfl | assumption | exact Rs.oneC RS | (simp only [List.all_cons, List.all_nil, Bool.and_true, Bool.and_eq_true, Row.cells, Flight.L, Hd.L, Snd.L, Ev.L]; (repeat' constructor) <;> first | rfl | assumption | exact Rs.oneC RS)) AT (by first | (simp; done) | decide | omega) ?_
                        clear H
                        intro w27_3 H
                        try dsimp only [replC, List.cons_append, List.nil_append, List.append_nil, agg, cellsL, Value.cells, List.toList_toArray, List.set_cons_zero, List.set_cons_succ, spliceL, List.take_succ_cons, List.take_zero, List.drop_succ_cons, List.drop_zero, List.length_cons, List.length_nil, Nat.reduceAdd, Row.cells, Flight.L, Hd.L, Snd.L, Ev.L] at H
                        refine LW.nil ?_
                        refine blockE_norm ?_
                        refine blockE_norm ?_
                        refine thenE_norm (h7 _ _ ?_); clear h7; try clear K7
                        refine CW.region ?_
                        refine zg (zt iM (zt iP iA)) ?_
                        refine LW.nil ?_
                        refine thenE_norm ⟨rfl, ?_⟩
                        exact ⟨_, by omega, i + 1, R, _, _, _, _, _, _, _, _, _, _, rfl, by omega, rfl, hR, (by refine ⟨?_, ?_, ?_, ?_, ?_, ?_, ?_, ?_, ?_, ?_, ?_, ?_, ?_, ?_, ?_, ?_, ?_, ?_, ?_, ?_⟩ <;> first | assumption | omega), by omega, SH.sel H [0, 1, 2] (by decide) rfl⟩
                      · try simp only [zb] at hc11
                        refine CW.region ?_
                        refine zg iM ?_
                        refine zg (zt (zk (r_rem rfl rfl rfl (by omega) (by omega) (wr_i64 (by omega) (by omega)))) (fA 3)) ?_
                        refine s_store H Tryz.sizeOf3 rfl EV (by first | rfl | assumption | exact Rs.oneC RS | (simp only [List.all_cons, List.all_nil, Bool.and_true, Bool.and_eq_true, Row.cells, Flight.L, Hd.L, Snd.L, Ev.L]; (repeat' constructor) <;> first | rfl | assumption | exact Rs.oneC RS)) AT (by first | (simp; done) | decide | omega) ?_
                        clear H
                        intro w7_3 H
                        try dsimp only [replC, List.cons_append, List.nil_append, List.append_nil, agg, cellsL, Value.cells, List.toList_toArray, List.set_cons_zero, List.set_cons_succ, spliceL, List.take_succ_cons, List.take_zero, List.drop_succ_cons, List.drop_zero, List.length_cons, List.length_nil, Nat.reduceAdd, Row.cells, Flight.L, Hd.L, Snd.L, Ev.L] at H
                        refine LW.nil ?_
                        refine blockE_norm ?_
                        refine blockE_norm ?_
                        refine thenE_norm (h7 _ _ ?_); clear h7; try clear K7
                        refine CW.region ?_
                        refine zg (zt iM (zt iP iA)) ?_
                        refine LW.nil ?_
                        refine thenE_norm ⟨rfl, ?_⟩
                        exact ⟨_, by omega, i + 1, R, _, _, _, _, _, _, _, _, _, _, rfl, by omega, rfl, hR, (by refine ⟨?_, ?_, ?_, ?_, ?_, ?_, ?_, ?_, ?_, ?_, ?_, ?_, ?_, ?_, ?_, ?_, ?_, ?_, ?_, ?_⟩ <;> first | assumption | omega), by omega, SH.sel H [0, 1, 2] (by decide) rfl⟩
  · try simp only [zb] at hc1
    refine CW.exit (thenE_exit (thenE_exit (blockE_hit ?_)))
    refine thenE_norm (h3 _ _ ?_); clear h3; try clear K3
    refine CW.seq fun K20 h20 => zr ?_
    refine zg (zk (r_loadA rfl Tryz.isAgg24 Tryz.sizeOf24 rfl (by first | exact SH.cells H AT) (by rfl))) ?_
    refine s_storeA H Tryz.sizeOf24 rfl EV (by simp only [cellsL, agg, List.toList_toArray, Row.cells, Flight.L, Hd.L, Snd.L, Ev.L] <;> rfl) (by rfl) (by first | rfl | assumption | exact Rs.oneC RS | (simp only [List.all_cons, List.all_nil, Bool.and_true, Bool.and_eq_true, Row.cells, Flight.L, Hd.L, Snd.L, Ev.L]; (repeat' constructor) <;> first | rfl | assumption | exact Rs.oneC RS)) AT (by first | (simp; done) | decide | (show _ ≤ _; decide)) ?_
    clear H
    intro w28_1 H
    try dsimp only [replC, List.cons_append, List.nil_append, List.append_nil, agg, cellsL, Value.cells, List.toList_toArray, List.set_cons_zero, List.set_cons_succ, spliceL, List.take_succ_cons, List.take_zero, List.drop_succ_cons, List.drop_zero, List.length_cons, List.length_nil, Nat.reduceAdd, Row.cells, Flight.L, Hd.L, Snd.L, Ev.L] at H
    refine LW.nil ?_
    refine thenE_norm (h20 _ _ ?_); clear h20; try clear K20
    refine CW.ret (retC1 Tryz.results14 EV Tryz.isAgg24 Tryz.sizeOf24 (by exact SH.cells H AT) (by rfl) ?_)
    exact ⟨R, s0, s1, s2, s3, s4, s5, s6, s7, s8, s9, hR, hs, rfl, H.ext⟩
end Go.Proofs.YtgmmbdmdimkfjaaGreat
