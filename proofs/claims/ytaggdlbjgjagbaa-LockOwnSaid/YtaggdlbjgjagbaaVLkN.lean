/-
  The walks of layer 8's laws: LockOwn.
-/
import Derived.Test.YtaggdlbjgjagbaaVLkI
import Derived.Test.YtaggdlbjgjagbaaVLkQ
namespace Go.Proofs.Ytaggdlbjgjagbaa
set_option linter.unusedSimpArgs false
set_option linter.unusedVariables false
set_option maxRecDepth 20000
open Go.V Go.RowKit Go.ChangeShapes Go.WideShapes

/-- A cell of a block of a thing's own is written. -/
theorem SH.wrote {U G F : Nat → Prop} {w0 w w' : World} {L : List Ch} {A A' : World → Prop} {i b : Nat} (H : SH U G w0 w L) (hi : At L i (.P F A)) (hb : F b) (hs : w'.heap.size = w.heap.size) (e : Ext (fun k => k = b) w w') (hst : Ch.St F A') (hA : A' w') : SH U G w0 w' (replC L i [.P F A']) :=
  SH.upd H hi trivial ⟨e.mono fun k hk => by subst hk; exact hb, Val.one ⟨hA, hst, fun k hk => by rw [hs]; exact (SH.val H).1 _ (At.mem hi) |>.lt k hk, fun _ k hk => .inl hk, fun k hk => .inl (.inl hk)⟩⟩
theorem nm_not {ms : List Lm} {n : ByteArray} (h : NmK ms) (hn : ∀ k : Int, 0 ≤ k → nameOf k ≠ n) : ms.find? (isT Lm.name n) = none := findT_no fun x hx e => by
  obtain ⟨k, hk, hxk⟩ := h x hx
  exact hn k hk (by rw [← hxk, e])
set_option maxHeartbeats 32000000 in
theorem LockOwn_c {F : Nat → Prop} {v : Value} {acts : List Act8} (name client : Int) (w : World) (hv : Rs F w v acts) (n0 : 0 ≤ name) (n1 : name < 256) (c0 : 0 ≤ client) (c1 : client < 256) :
    Calls Try.prog 9 #[v, .int .u8 name, .int .u8 client] w fun e w' => e = .returned (.bool true) ∧ Ext0 w w' := by
  have H := SH.start (U := Non) (G := Any) w
  refine calls_of_CW Try.func9 rfl Try.ntmps9 (Nat.le_of_ble_eq_true rfl) ?_
  simp only [argE, argFrom, Nat.reduceAdd]
  refine CW.seq (fun K1 h1 => ?_)
  refine CW.region ?_
  refine r_assign rfl ?_
  refine LW.nil ?_
  refine thenE_norm (h1 _ _ ?_); clear h1; try clear K1
  refine CW.seq (fun K2 h2 => ?_)
  refine CW.region ?_
  refine r_move rfl ?_
  refine r_call rfl Try.call28 (by simp only [List.map_cons, List.map_nil, List.map_toArray, List.toList_toArray, upd_get, ev, Nat.reduceEqDiff, ↓reduceIte] <;> rfl) (Made_c _ hv) ?_
  rintro _ w1_1 ⟨v1_1, raws, ms, tok, FU, FL, rfl, hok, hnm, ht0, ht1, K⟩
  refine ⟨_, rfl, ?_⟩
  replace H := SH.call H K
  clear K
  try dsimp only [replC, List.cons_append, List.nil_append, List.append_nil] at H
  have hm : LksA FL raws ms w1_1 := SH.propI H (i := 1) rfl
  have hsh := hok.short
  have hl4 := hok.len
  have hrl : raws.length = ms.length := All2.len hm
  have hnt : ms.find? (isT Lm.name (ByteArray.mk #[110, 111, 116, 45, 116, 104, 101, 114, 101])) = none := nm_not hnm fun k hk => (names6_no k hk).1
  have hom : ms.find? (isT Lm.name (ByteArray.mk #[111, 110, 101, 45, 109, 111, 114, 101])) = none := nm_not hnm fun k hk => (names6_no k hk).2
  refine r_move rfl ?_
  refine r_extract rfl (by simp only [upd_get, ev, Nat.reduceEqDiff, ↓reduceIte] <;> rfl) (by simp only [List.getElem?_toArray, List.getElem?_cons_zero, List.getElem?_cons_succ] <;> rfl) ?_
  refine r_extract rfl (by simp only [upd_get, ev, Nat.reduceEqDiff, ↓reduceIte] <;> rfl) (by simp only [List.getElem?_toArray, List.getElem?_cons_zero, List.getElem?_cons_succ] <;> rfl) ?_
  refine r_assign rfl ?_
  refine r_assign rfl ?_
  refine LW.nil ?_
  refine thenE_norm ?_
  refine cut (K := K2) [1, 2, 7, 8] (fun σ => ?_)
  simp only [setL, keepE, upd_get, ev, Nat.reduceEqDiff, ↓reduceIte]
  refine h2 _ _ ?_; clear h2; try clear K2
  refine CW.seq (fun K3 h3 => ?_)
  refine CW.region ?_
  refine r_move rfl ?_
  refine r_call rfl Try.call34 (by simp only [List.map_cons, List.map_nil, List.map_toArray, List.toList_toArray, upd_get, ev, Nat.reduceEqDiff, ↓reduceIte] <;> rfl) (Copy_c _ (SH.rsR H (i := 0) rfl) (SH.propI H (i := 1) rfl) (by omega) hsh) ?_
  rintro _ w2_1 ⟨v2_1, raws2_1, g2_1, F2_1, rfl, K⟩
  refine ⟨_, rfl, ?_⟩
  replace H := SH.call H K
  clear K
  try dsimp only [replC, List.cons_append, List.nil_append, List.append_nil] at H
  refine r_assign rfl ?_
  refine LW.nil ?_
  refine thenE_norm (h3 _ _ ?_); clear h3; try clear K3
  refine CW.seq (fun K4 h4 => ?_)
  refine CW.region ?_
  refine r_move rfl ?_
  refine r_call rfl Try.call29 (by simp only [List.map_cons, List.map_nil, List.map_toArray, List.toList_toArray, upd_get, ev, Nat.reduceEqDiff, ↓reduceIte] <;> rfl) (Named_c _ _ n0 n1) ?_
  rintro _ w3_1 ⟨rfl, X⟩
  refine ⟨_, rfl, ?_⟩
  replace H := SH.same H X
  clear X
  refine r_move rfl ?_
  refine r_convI rfl Try.underlying5 Try.underlying3 rfl (wr_i64 (by omega) (by omega)) ?_
  refine r_rem rfl rfl rfl (by omega) (by omega) (wr_i64 (by omega) (by omega)) ?_
  refine r_assign rfl ?_
  refine r_assign rfl ?_
  refine LW.nil ?_
  refine thenE_norm ?_
  refine cut (K := K4) [7, 8, 9, 10, 11] (fun σ => ?_)
  simp only [setL, keepE, upd_get, ev, Nat.reduceEqDiff, ↓reduceIte]
  refine h4 _ _ ?_; clear h4; try clear K4
  refine CW.seq (fun K5 h5 => ?_)
  have hcc : 0 ≤ client % 8 ∧ client % 8 < 8 := by omega
  generalize hC : client % 8 = c at *
  have hns := (nameOf_ok name n0).1
  generalize hN : nameOf name = s at *
  refine CW.region ?_
  refine r_move rfl ?_
  refine r_move rfl ?_
  refine r_call rfl Try.call30 (by simp only [List.map_cons, List.map_nil, List.map_toArray, List.toList_toArray, upd_get, ev, Nat.reduceEqDiff, ↓reduceIte] <;> rfl) (FindK_c _ _ (SH.rsR H (i := 0) rfl) (SH.propI H (i := 1) rfl) (by omega) hsh hok.up) ?_
  rintro _ w4_2 ⟨v4_2, g4_2, rfl, K⟩
  refine ⟨_, rfl, ?_⟩
  replace H := SH.call H K
  clear K
  try dsimp only [replC, List.cons_append, List.nil_append, List.append_nil] at H
  refine r_move rfl ?_
  refine r_extract rfl (by simp only [upd_get, ev, Nat.reduceEqDiff, ↓reduceIte] <;> rfl) (by simp only [List.getElem?_toArray, List.getElem?_cons_zero, List.getElem?_cons_succ] <;> rfl) ?_
  refine r_extract rfl (by simp only [upd_get, ev, Nat.reduceEqDiff, ↓reduceIte] <;> rfl) (by simp only [List.getElem?_toArray, List.getElem?_cons_zero, List.getElem?_cons_succ] <;> rfl) ?_
  refine s_alloc (cs := [.string (ByteArray.mk #[]), .int .i64 0, .int .i64 0, .slice none 0 0]) H rfl Try.zeroValue53 rfl ?_
  clear H
  intro b4_6 w4_6 H
  try dsimp only [replC, List.cons_append, List.nil_append, List.append_nil, agg, cellsL, Value.cells, List.toList_toArray, List.set_cons_zero, List.set_cons_succ, spliceL, List.take_succ_cons, List.take_zero, List.drop_succ_cons, List.drop_zero, List.length_cons, List.length_nil, Nat.reduceAdd, Row.cells, Gr.L, Lk.L, Act8.L] at H
  refine s_storeA H Try.sizeOf53 rfl (by simp only [upd_get, ev, Nat.reduceEqDiff, ↓reduceIte] <;> rfl) (by simp only [cellsL, agg, List.toList_toArray, Row.cells, Gr.L, Lk.L, Act8.L] <;> rfl) (by rfl) (by first | rfl | assumption | exact Rs.oneC (by first | assumption | exact SH.rsR H (by (repeat first | exact At.here | apply At.there); done) | exact SH.rsO H (by (repeat first | exact At.here | apply At.there); done) | exact (Rs.nil : Rs Non _ _ _)) | (simp only [List.all_cons, List.all_nil, Bool.and_true, Bool.and_eq_true, Row.cells, Gr.L, Lk.L, Act8.L]; (repeat' constructor) <;> first | rfl | assumption | exact Rs.oneC (by first | assumption | exact SH.rsR H (by (repeat first | exact At.here | apply At.there); done) | exact SH.rsO H (by (repeat first | exact At.here | apply At.there); done) | exact (Rs.nil : Rs Non _ _ _)))) (by (repeat first | exact At.here | apply At.there); done) (by first | (simp; done) | decide | (show _ ≤ _; decide)) ?_
  clear H
  intro w4_7 H
  try dsimp only [replC, List.cons_append, List.nil_append, List.append_nil, agg, cellsL, Value.cells, List.toList_toArray, List.set_cons_zero, List.set_cons_succ, spliceL, List.take_succ_cons, List.take_zero, List.drop_succ_cons, List.drop_zero, List.length_cons, List.length_nil, Nat.reduceAdd, Row.cells, Gr.L, Lk.L, Act8.L] at H
  refine r_assign rfl ?_
  refine LW.nil ?_
  refine thenE_norm ?_
  refine cut (K := K5) [7, 8, 9, 10, 11, 12, 13] (fun σ => ?_)
  simp only [setL, keepE, upd_get, ev, Nat.reduceEqDiff, ↓reduceIte]
  refine h5 _ _ ?_; clear h5; try clear K5
  refine CW.seq (fun K6 h6 => ?_)
  refine CW.region ?_
  refine r_move rfl ?_
  refine r_move rfl ?_
  refine r_move rfl ?_
  refine r_move rfl ?_
  refine r_call rfl Try.call32 (by simp only [List.map_cons, List.map_nil, List.map_toArray, List.toList_toArray, upd_get, ev, Nat.reduceEqDiff, ↓reduceIte] <;> rfl) (TakeW_c _ _ _ _ _ (SH.rsR H (i := 0) rfl) (SH.propI H (i := 1) rfl) (by omega) hsh hok.up (by omega) (by omega)) ?_
  rintro _ w5_4 ⟨v5_4, raws5_4, g5_4, F5_4, rfl, K⟩
  refine ⟨_, rfl, ?_⟩
  replace H := SH.call H K
  clear K
  try dsimp only [replC, List.cons_append, List.nil_append, List.append_nil] at H
  refine r_move rfl ?_
  refine r_extract rfl (by simp only [upd_get, ev, Nat.reduceEqDiff, ↓reduceIte] <;> rfl) (by simp only [List.getElem?_toArray, List.getElem?_cons_zero, List.getElem?_cons_succ] <;> rfl) ?_
  refine r_extract rfl (by simp only [upd_get, ev, Nat.reduceEqDiff, ↓reduceIte] <;> rfl) (by simp only [List.getElem?_toArray, List.getElem?_cons_zero, List.getElem?_cons_succ] <;> rfl) ?_
  refine r_extract rfl (by simp only [upd_get, ev, Nat.reduceEqDiff, ↓reduceIte] <;> rfl) (by simp only [List.getElem?_toArray, List.getElem?_cons_zero, List.getElem?_cons_succ] <;> rfl) ?_
  refine r_assign rfl ?_
  refine r_assign rfl ?_
  refine r_assign rfl ?_
  refine LW.nil ?_
  refine thenE_norm ?_
  refine cut (K := K6) [7, 8, 9, 10, 11, 12, 13, 14, 16] (fun σ => ?_)
  simp only [setL, keepE, upd_get, ev, Nat.reduceEqDiff, ↓reduceIte]
  refine h6 _ _ ?_; clear h6; try clear K6
  refine CW.seq (fun K7 h7 => ?_)
  refine CW.region ?_
  refine r_move rfl ?_
  refine r_move rfl ?_
  refine r_move rfl ?_
  refine r_move rfl ?_
  refine r_call rfl Try.call33 (by simp only [List.map_cons, List.map_nil, List.map_toArray, List.toList_toArray, upd_get, ev, Nat.reduceEqDiff, ↓reduceIte] <;> rfl) (FreeK_c _ _ _ _ (SH.rsR H (i := 0) rfl) (SH.propI H (i := 1) rfl) (by omega) hsh hok.up (by omega) (by omega)) ?_
  rintro _ w6_4 ⟨v6_4, raws6_4, g6_4, F6_4, rfl, K⟩
  refine ⟨_, rfl, ?_⟩
  replace H := SH.call H K
  clear K
  try dsimp only [replC, List.cons_append, List.nil_append, List.append_nil] at H
  refine r_move rfl ?_
  refine r_extract rfl (by simp only [upd_get, ev, Nat.reduceEqDiff, ↓reduceIte] <;> rfl) (by simp only [List.getElem?_toArray, List.getElem?_cons_zero, List.getElem?_cons_succ] <;> rfl) ?_
  refine r_extract rfl (by simp only [upd_get, ev, Nat.reduceEqDiff, ↓reduceIte] <;> rfl) (by simp only [List.getElem?_toArray, List.getElem?_cons_zero, List.getElem?_cons_succ] <;> rfl) ?_
  refine r_extract rfl (by simp only [upd_get, ev, Nat.reduceEqDiff, ↓reduceIte] <;> rfl) (by simp only [List.getElem?_toArray, List.getElem?_cons_zero, List.getElem?_cons_succ] <;> rfl) ?_
  refine r_assign rfl ?_
  refine r_assign rfl ?_
  refine r_assign rfl ?_
  refine LW.nil ?_
  refine thenE_norm ?_
  refine cut (K := K7) [7, 8, 9, 11, 12, 13, 14, 16, 19] (fun σ => ?_)
  simp only [setL, keepE, upd_get, ev, Nat.reduceEqDiff, ↓reduceIte]
  refine h7 _ _ ?_; clear h7; try clear K7
  refine CW.seq (fun K8 h8 => ?_)
  refine CW.region ?_
  refine r_move rfl ?_
  refine r_move rfl ?_
  refine r_move rfl ?_
  refine r_call rfl Try.call33 (by simp only [List.map_cons, List.map_nil, List.map_toArray, List.toList_toArray, upd_get, ev, Nat.reduceEqDiff, ↓reduceIte] <;> rfl) (FreeK_c _ _ _ _ (SH.rsR H (i := 0) rfl) (SH.propI H (i := 1) rfl) (by omega) hsh hok.up (by omega) (by omega)) ?_
  rintro _ w7_3 ⟨v7_3, raws7_3, g7_3, F7_3, rfl, K⟩
  refine ⟨_, rfl, ?_⟩
  replace H := SH.call H K
  clear K
  try dsimp only [replC, List.cons_append, List.nil_append, List.append_nil] at H
  rw [free_none hnt]
  refine r_move rfl ?_
  refine r_extract rfl (by simp only [upd_get, ev, Nat.reduceEqDiff, ↓reduceIte] <;> rfl) (by simp only [List.getElem?_toArray, List.getElem?_cons_zero, List.getElem?_cons_succ] <;> rfl) ?_
  refine r_extract rfl (by simp only [upd_get, ev, Nat.reduceEqDiff, ↓reduceIte] <;> rfl) (by simp only [List.getElem?_toArray, List.getElem?_cons_zero, List.getElem?_cons_succ] <;> rfl) ?_
  refine r_extract rfl (by simp only [upd_get, ev, Nat.reduceEqDiff, ↓reduceIte] <;> rfl) (by simp only [List.getElem?_toArray, List.getElem?_cons_zero, List.getElem?_cons_succ] <;> rfl) ?_
  refine r_assign rfl ?_
  refine r_assign rfl ?_
  refine r_assign rfl ?_
  refine LW.nil ?_
  refine thenE_norm ?_
  refine cut (K := K8) [7, 8, 9, 11, 12, 13, 14, 16, 19, 22] (fun σ => ?_)
  simp only [setL, keepE, upd_get, ev, Nat.reduceEqDiff, ↓reduceIte]
  refine h8 _ _ ?_; clear h8; try clear K8
  refine CW.seq (fun K9 h9 => ?_)
  refine CW.region ?_
  refine r_move rfl ?_
  refine r_move rfl ?_
  refine r_move rfl ?_
  refine r_call rfl Try.call32 (by simp only [List.map_cons, List.map_nil, List.map_toArray, List.toList_toArray, upd_get, ev, Nat.reduceEqDiff, ↓reduceIte] <;> rfl) (TakeK_c _ _ _ _ _ (SH.rsR H (i := 0) rfl) (SH.propI H (i := 1) rfl) (by omega) hsh hok.up (by omega) (by omega)) ?_
  rintro _ w8_3 ⟨v8_3, raws8_3, g8_3, F8_3, rfl, K⟩
  refine ⟨_, rfl, ?_⟩
  replace H := SH.call H K
  clear K
  try dsimp only [replC, List.cons_append, List.nil_append, List.append_nil] at H
  refine r_move rfl ?_
  refine r_extract rfl (by simp only [upd_get, ev, Nat.reduceEqDiff, ↓reduceIte] <;> rfl) (by simp only [List.getElem?_toArray, List.getElem?_cons_zero, List.getElem?_cons_succ] <;> rfl) ?_
  refine r_extract rfl (by simp only [upd_get, ev, Nat.reduceEqDiff, ↓reduceIte] <;> rfl) (by simp only [List.getElem?_toArray, List.getElem?_cons_zero, List.getElem?_cons_succ] <;> rfl) ?_
  refine r_extract rfl (by simp only [upd_get, ev, Nat.reduceEqDiff, ↓reduceIte] <;> rfl) (by simp only [List.getElem?_toArray, List.getElem?_cons_zero, List.getElem?_cons_succ] <;> rfl) ?_
  refine r_assign rfl ?_
  refine r_assign rfl ?_
  refine r_assign rfl ?_
  refine LW.nil ?_
  refine thenE_norm ?_
  refine cut (K := K9) [7, 9, 11, 12, 13, 14, 16, 19, 22, 25] (fun σ => ?_)
  simp only [setL, keepE, upd_get, ev, Nat.reduceEqDiff, ↓reduceIte]
  refine h9 _ _ ?_; clear h9; try clear K9
  refine CW.seq (fun K10 h10 => ?_)
  refine CW.seq (fun K11 h11 => ?_)
  have hm5 : raws5_4.length = _ := All2.len (SH.prop H (i := 7) rfl).1
  have hr5 : raws5_4.length ≤ 9 := by
    rw [hm5]
    cases hf : ms.find? (isT Lm.name s) with
    | none =>
      by_cases h4 : 4 ≤ ms.length
      · rw [take_full hf h4]; decide
      · rw [take_new hf h4, putT_new_len hok.up (findT_none hf)]; omega
    | some k =>
      by_cases h1 : k.holder = c
      · rw [take_twice hf h1]; decide
      by_cases h3 : c ∈ k.line
      · rw [take_in hf h1 (by decide) h3]; dsimp only; omega
      by_cases h4 : (joinM k.line c).2.2 ≠ 0
      · rw [take_not hf h1 (by decide) h3 h4]; exact Nat.zero_le _
      · rw [take_join hf h1 (by decide) h3 h4]; dsimp only; have h9 := putT_in_len (k := Lm.name) (m := ⟨k.name, k.holder, k.token, (joinM k.line c).1⟩) (s := k) hok.up (findT_key hf).2 rfl; omega
  have H1 := SH.cast (d := .P F5_4 (LksW F5_4 raws5_4)) H (i := 7) rfl (fun h => h) (fun b hb => hb) lksw_st (fun h => h.2)
  replace H : SH Non Any w w8_3 [.R FU v1_1 raws, .I FL (LksA FL raws ms), .O 53 v2_1 raws2_1 g2_1, .P F2_1 (LksA F2_1 raws2_1 ms), .O 3 v4_2 (findL ms s).1.line g4_2, .B b4_6 53 [.string (findL ms s).1.name, .int .i64 (findL ms s).1.holder, .int .i64 (findL ms s).1.token, v4_2], .O 53 v5_4 raws5_4 g5_4, .P F5_4 (LksW F5_4 raws5_4)] := SH.sel H1 [0, 1, 2, 3, 4, 5, 6, 7] (by decide) rfl
  clear H1
  refine CW.region ?_
  refine r_assign rfl ?_
  refine LW.nil ?_
  refine thenE_norm (h11 _ _ ?_); clear h11; try clear K11
  refine CW.block ?_
  refine CW.loopR [7, 9, 11, 12, 13, 14, 16, 19, 22, 25] [26] (fun m vs w' => ∃ (i : Nat) (rs : List Lk), vs = [.int .i64 i] ∧ i ≤ rs.length ∧ rs.length ≤ 9 ∧ m = rs.length - i ∧ SH Non Any w w' [.R FU v1_1 raws, .I FL (LksA FL raws ms), .O 53 v2_1 raws2_1 g2_1, .P F2_1 (LksA F2_1 raws2_1 ms), .O 3 v4_2 (findL ms s).1.line g4_2, .B b4_6 53 [.string (findL ms s).1.name, .int .i64 (findL ms s).1.holder, .int .i64 (findL ms s).1.token, v4_2], .O 53 v5_4 rs g5_4, .P F5_4 (LksW F5_4 rs)]) (raws5_4.length) ?_ ?_
  · exact ⟨0, raws5_4, rfl, by omega, hr5, by omega, H⟩
  try clear H
  rintro n1 vs1 wL1 σ ⟨i, rs, rfl, hi, hr9, rfl, H⟩
  simp only [setL, keepE, upd_get, ev, Nat.reduceEqDiff, ↓reduceIte]
  refine CW.seq (fun K12 h12 => ?_)
  refine CW.seq (fun K13 h13 => ?_)
  refine CW.region ?_
  refine r_move rfl ?_
  refine r_move rfl ?_
  first
    | refine r_lenV rfl Try.underlying48 (by simp only [upd_get, ev, Nat.reduceEqDiff, ↓reduceIte] <;> rfl) (by first | assumption | exact SH.rsR H (by (repeat first | exact At.here | apply At.there); done) | exact SH.rsO H (by (repeat first | exact At.here | apply At.there); done) | exact (Rs.nil : Rs Non _ _ _)) ?_
    | refine r_len rfl Try.underlying48 rfl ?_
  refine r_lss rfl rfl rfl ?_
  refine LW.nil ?_
  refine thenE_norm (h13 _ _ ?_); clear h13; try clear K13
  refine CW.cond rfl (fun hc1 => ?_) (fun hc1 => ?_)
  · try simp only [decide_eq_true_eq, decide_eq_false_iff_not, Bool.and_eq_true, Bool.or_eq_true, Bool.and_eq_false_iff, Bool.or_eq_false_iff, Bool.not_eq_true', Bool.not_eq_false', beq_iff_eq, bne_iff_ne, ne_eq, Decidable.not_not] at hc1
    refine CW.skip ?_
    refine thenE_norm (h12 _ _ ?_); clear h12; try clear K12
    refine CW.seq (fun K14 h14 => ?_)
    refine CW.block ?_
    refine CW.seq (fun K15 h15 => ?_)
    refine CW.seq (fun K16 h16 => ?_)
    obtain ⟨r, hr⟩ := get_of_lt (show i < rs.length by omega)
    obtain ⟨ao, n, cap, hln, hnc, hcm, hwr⟩ := SH.prop H (i := 7) rfl r (List.mem_of_getElem? hr)
    obtain ⟨r1, r2, r3, r4⟩ := r
    dsimp only at hln
    subst hln
    have hn63 : n ≤ 9223372036854775807 := by simp only [maxLen] at hcm; omega
    have hr7 : rs[((i : Nat) : Int).toNat]? = some ⟨r1, r2, r3, .slice ao n cap⟩ := hr
    refine CW.region ?_
    refine r_assign rfl ?_
    refine LW.nil ?_
    refine thenE_norm (h16 _ _ ?_); clear h16; try clear K16
    refine CW.block ?_
    refine CW.loopR [7, 9, 11, 12, 13, 14, 16, 19, 22, 25, 26] [27] (fun m vs w' => ∃ j : Nat, vs = [.int .i64 j] ∧ j ≤ n ∧ m = n - j ∧ SH Non Any w w' [.R FU v1_1 raws, .I FL (LksA FL raws ms), .O 53 v2_1 raws2_1 g2_1, .P F2_1 (LksA F2_1 raws2_1 ms), .O 3 v4_2 (findL ms s).1.line g4_2, .B b4_6 53 [.string (findL ms s).1.name, .int .i64 (findL ms s).1.holder, .int .i64 (findL ms s).1.token, v4_2], .O 53 v5_4 rs g5_4, .P F5_4 (LksW F5_4 rs)]) (n) ?_ ?_
    · exact ⟨0, rfl, by omega, by omega, H⟩
    try clear H
    rintro n2 vs2 wL2 σ ⟨j, rfl, hj, rfl, H⟩
    simp only [setL, keepE, upd_get, ev, Nat.reduceEqDiff, ↓reduceIte]
    refine CW.seq (fun K17 h17 => ?_)
    refine CW.seq (fun K18 h18 => ?_)
    refine CW.region ?_
    refine r_move rfl ?_
    refine r_move rfl ?_
    refine r_move rfl ?_
    refine r_indexAddrV rfl Try.underlying48 (by simp only [upd_get, ev, Nat.reduceEqDiff, ↓reduceIte] <;> rfl) rfl (by first | assumption | exact SH.rsR H (by (repeat first | exact At.here | apply At.there); done) | exact SH.rsO H (by (repeat first | exact At.here | apply At.there); done) | exact (Rs.nil : Rs Non _ _ _)) (by exact Try.sizeOf53) (by omega) (by omega) ?_
    refine r_fieldAddrO rfl Try.underlying53 rfl Try.sizeOf22 (by decide) (show _ + 3 = _ from rfl) rfl ?_
    refine r_load rfl Try.isAgg22 rfl (by first | exact Rs.cell (o := 3) (by first | assumption | exact SH.rsR H (by (repeat first | exact At.here | apply At.there); done) | exact SH.rsO H (by (repeat first | exact At.here | apply At.there); done) | exact (Rs.nil : Rs Non _ _ _)) (by assumption) (by rfl) | exact Rs.cell0 (by first | assumption | exact SH.rsR H (by (repeat first | exact At.here | apply At.there); done) | exact SH.rsO H (by (repeat first | exact At.here | apply At.there); done) | exact (Rs.nil : Rs Non _ _ _)) (by assumption) (by rfl) | assumption) ?_
    first
      | refine r_lenV rfl Try.underlying22 (by simp only [upd_get, ev, Nat.reduceEqDiff, ↓reduceIte] <;> rfl) (by first | assumption | exact SH.rsR H (by (repeat first | exact At.here | apply At.there); done) | exact SH.rsO H (by (repeat first | exact At.here | apply At.there); done) | exact (Rs.nil : Rs Non _ _ _)) ?_
      | refine r_len rfl Try.underlying22 rfl ?_
    refine r_lss rfl rfl rfl ?_
    refine LW.nil ?_
    refine thenE_norm ?_
    refine cut (K := K18) [7, 9, 11, 12, 13, 14, 16, 19, 22, 25, 26, 27, 94] (fun σ => ?_)
    simp only [setL, keepE, upd_get, ev, Nat.reduceEqDiff, ↓reduceIte]
    refine h18 _ _ ?_; clear h18; try clear K18
    refine CW.cond rfl (fun hc2 => ?_) (fun hc2 => ?_)
    · try simp only [decide_eq_true_eq, decide_eq_false_iff_not, Bool.and_eq_true, Bool.or_eq_true, Bool.and_eq_false_iff, Bool.or_eq_false_iff, Bool.not_eq_true', Bool.not_eq_false', beq_iff_eq, bne_iff_ne, ne_eq, Decidable.not_not] at hc2
      refine CW.skip ?_
      refine thenE_norm (h17 _ _ ?_); clear h17; try clear K17
      refine CW.seq (fun K19 h19 => ?_)
      refine CW.block ?_
      obtain ⟨ao2, n2, cap2, he2, -, -, hw2⟩ := SH.prop H (i := 7) rfl _ (List.mem_of_getElem? hr)
      dsimp only at he2
      simp only [Value.slice.injEq] at he2
      obtain ⟨hb1, hb2, hb3⟩ := he2
      subst hb1 hb2 hb3
      rcases hw2 with h0 | ⟨bq, oq, Eq2, cur, hao, hFb, hbk, hlen⟩
      · omega
      refine CW.region ?_
      refine r_move rfl ?_
      refine r_move rfl ?_
      refine r_indexAddrV rfl Try.underlying48 (by simp only [upd_get, ev, Nat.reduceEqDiff, ↓reduceIte] <;> rfl) rfl (by first | assumption | exact SH.rsR H (by (repeat first | exact At.here | apply At.there); done) | exact SH.rsO H (by (repeat first | exact At.here | apply At.there); done) | exact (Rs.nil : Rs Non _ _ _)) (by exact Try.sizeOf53) (by omega) (by omega) ?_
      refine r_fieldAddrO rfl Try.underlying53 rfl Try.sizeOf22 (by decide) (show _ + 3 = _ from rfl) rfl ?_
      refine r_load rfl Try.isAgg22 rfl (by first | exact Rs.cell (o := 3) (by first | assumption | exact SH.rsR H (by (repeat first | exact At.here | apply At.there); done) | exact SH.rsO H (by (repeat first | exact At.here | apply At.there); done) | exact (Rs.nil : Rs Non _ _ _)) (by assumption) (by rfl) | exact Rs.cell0 (by first | assumption | exact SH.rsR H (by (repeat first | exact At.here | apply At.there); done) | exact SH.rsO H (by (repeat first | exact At.here | apply At.there); done) | exact (Rs.nil : Rs Non _ _ _)) (by assumption) (by rfl) | assumption) ?_
      refine r_move rfl ?_
      refine r_indexAddr (b := bq) (o := oq) (len := n) (cap := cap) rfl Try.underlying22 Try.sizeOf3 (by simp only [upd_get, ev, Nat.reduceEqDiff, ↓reduceIte]; rw [← hao]) rfl (by omega) (by omega) ?_
      refine r_store (b := bq) (E := Eq2) (cs := cur) (v := .int .i64 99) Try.sizeOf3 rfl rfl rfl hbk (by omega) ?_
      intro w15_7 hs15 he15 hb15
      replace H : SH Non Any w w15_7 [.R FU v1_1 raws, .I FL (LksA FL raws ms), .O 53 v2_1 raws2_1 g2_1, .P F2_1 (LksA F2_1 raws2_1 ms), .O 3 v4_2 (findL ms s).1.line g4_2, .B b4_6 53 [.string (findL ms s).1.name, .int .i64 (findL ms s).1.holder, .int .i64 (findL ms s).1.token, v4_2], .O 53 v5_4 rs g5_4, .P F5_4 (LksW F5_4 rs)] := SH.wrote H (i := 7) rfl hFb hs15 he15 lksw_st (fun x hx => (SH.prop H (i := 7) rfl x hx).set hbk he15 hb15)
      refine LW.nil ?_
      refine blockE_norm ?_
      refine thenE_norm (h19 _ _ ?_); clear h19; try clear K19
      refine CW.region ?_
      refine r_move rfl ?_
      refine r_add rfl rfl rfl (wr_i64 (by omega) (by omega)) ?_
      refine r_assign rfl ?_
      refine LW.nil ?_
      refine thenE_norm ⟨rfl, ?_⟩
      exact ⟨n - (j + 1), by omega, j + 1, rfl, by omega, rfl, H⟩
    · try simp only [decide_eq_true_eq, decide_eq_false_iff_not, Bool.and_eq_true, Bool.or_eq_true, Bool.and_eq_false_iff, Bool.or_eq_false_iff, Bool.not_eq_true', Bool.not_eq_false', beq_iff_eq, bne_iff_ne, ne_eq, Decidable.not_not] at hc2
      refine CW.exit (thenE_exit (thenE_exit (blockE_hit ?_)))
      refine thenE_norm (h15 _ _ ?_); clear h15; try clear K15
      refine CW.region ?_
      refine r_move rfl ?_
      refine r_move rfl ?_
      refine r_indexAddrV rfl Try.underlying48 (by simp only [upd_get, ev, Nat.reduceEqDiff, ↓reduceIte] <;> rfl) rfl (by first | assumption | exact SH.rsR H (by (repeat first | exact At.here | apply At.there); done) | exact SH.rsO H (by (repeat first | exact At.here | apply At.there); done) | exact (Rs.nil : Rs Non _ _ _)) (by exact Try.sizeOf53) (by omega) (by omega) ?_
      refine r_fieldAddrO rfl Try.underlying53 rfl Try.sizeOf3 (by decide) (show _ + 1 = _ from rfl) rfl ?_
      refine s_storeR (o := 1) (x1 := (⟨r1, 98, r3, .slice ao n cap⟩ : Lk)) H Try.sizeOf3 rfl (by simp only [upd_get, ev, Nat.reduceEqDiff, ↓reduceIte] <;> rfl) (by first | rfl | assumption | exact Rs.oneC (by first | assumption | exact SH.rsR H (by (repeat first | exact At.here | apply At.there); done) | exact SH.rsO H (by (repeat first | exact At.here | apply At.there); done) | exact (Rs.nil : Rs Non _ _ _)) | (simp only [List.all_cons, List.all_nil, Bool.and_true, Bool.and_eq_true, Row.cells, Gr.L, Lk.L, Act8.L]; (repeat' constructor) <;> first | rfl | assumption | exact Rs.oneC (by first | assumption | exact SH.rsR H (by (repeat first | exact At.here | apply At.there); done) | exact SH.rsO H (by (repeat first | exact At.here | apply At.there); done) | exact (Rs.nil : Rs Non _ _ _)))) (by (repeat first | exact At.here | apply At.there); done) hr7 (by rfl) (by rfl) (by rfl) (by first | rfl | assumption | exact Rs.oneC (by first | assumption | exact SH.rsR H (by (repeat first | exact At.here | apply At.there); done) | exact SH.rsO H (by (repeat first | exact At.here | apply At.there); done) | exact (Rs.nil : Rs Non _ _ _)) | (simp only [List.all_cons, List.all_nil, Bool.and_true, Bool.and_eq_true, Row.cells, Gr.L, Lk.L, Act8.L]; (repeat' constructor) <;> first | rfl | assumption | exact Rs.oneC (by first | assumption | exact SH.rsR H (by (repeat first | exact At.here | apply At.there); done) | exact SH.rsO H (by (repeat first | exact At.here | apply At.there); done) | exact (Rs.nil : Rs Non _ _ _)))) ?_
      clear H
      intro w16_4 H
      try dsimp only [replC, List.cons_append, List.nil_append, List.append_nil, agg, cellsL, Value.cells, List.toList_toArray, List.set_cons_zero, List.set_cons_succ, spliceL, List.take_succ_cons, List.take_zero, List.drop_succ_cons, List.drop_zero, List.length_cons, List.length_nil, Nat.reduceAdd, Row.cells, Gr.L, Lk.L, Act8.L] at H
      refine LW.nil ?_
      refine blockE_norm ?_
      refine thenE_norm (h14 _ _ ?_); clear h14; try clear K14
      refine CW.region ?_
      refine r_move rfl ?_
      refine r_add rfl rfl rfl (wr_i64 (by omega) (by omega)) ?_
      refine r_assign rfl ?_
      refine LW.nil ?_
      refine thenE_norm ⟨rfl, ?_⟩
      have H2 := SH.cast (d := .P F5_4 (LksW F5_4 (rs.set i (⟨r1, 98, r3, .slice ao n cap⟩ : Lk)))) H (i := 7) rfl (fun h => h) (fun b hb => hb) lksw_st (fun h x hx => by
        rcases List.mem_or_eq_of_mem_set hx with hx | rfl
        · exact h x hx
        · have h9 := h _ (List.mem_of_getElem? hr)
          exact h9)
      exact ⟨rs.length - (i + 1), by omega, i + 1, _, rfl, by rw [List.length_set]; omega, by rw [List.length_set]; exact hr9, by rw [List.length_set], H2⟩
  · try simp only [decide_eq_true_eq, decide_eq_false_iff_not, Bool.and_eq_true, Bool.or_eq_true, Bool.and_eq_false_iff, Bool.or_eq_false_iff, Bool.not_eq_true', Bool.not_eq_false', beq_iff_eq, bne_iff_ne, ne_eq, Decidable.not_not] at hc1
    refine CW.exit (thenE_exit (thenE_exit (blockE_hit ?_)))
    refine thenE_norm (h10 _ _ ?_); clear h10; try clear K10
    refine CW.seq (fun K20 h20 => ?_)
    rcases (show (ms.find? (isT Lm.name s) = none ∧ 4 ≤ ms.length) ∨ (ms.find? (isT Lm.name s) = none ∧ ¬ 4 ≤ ms.length) ∨ (∃ k, ms.find? (isT Lm.name s) = some k ∧ k.holder = c) ∨ (∃ k, ms.find? (isT Lm.name s) = some k ∧ ¬ k.holder = c ∧ c ∈ k.line) ∨ (∃ k, ms.find? (isT Lm.name s) = some k ∧ ¬ k.holder = c ∧ ¬ c ∈ k.line) by
      cases hf : ms.find? (isT Lm.name s) with
      | none =>
        by_cases h4 : 4 ≤ ms.length
        · exact .inl ⟨rfl, h4⟩
        · exact .inr (.inl ⟨rfl, h4⟩)
      | some k =>
        by_cases h1 : k.holder = c
        · exact .inr (.inr (.inl ⟨k, rfl, h1⟩))
        · by_cases h2 : c ∈ k.line
          · exact .inr (.inr (.inr (.inl ⟨k, rfl, h1, h2⟩)))
          · exact .inr (.inr (.inr (.inr ⟨k, rfl, h1, h2⟩)))) with ⟨hf, h4⟩ | ⟨hf, h4⟩ | ⟨k, hf, h1⟩ | ⟨k, hf, h1, h2⟩ | ⟨k, hf, h1, h2⟩
    · rw [findL_none hf] at H ⊢
      rw [free_none hf, take_full hf h4]
      dsimp only at H ⊢
      refine CW.region ?_
      refine r_move rfl ?_
      refine r_move rfl ?_
      refine LW.known (t := 109) (c := false) rfl (by first | rfl | (simp only [decide_eq_true_eq, decide_eq_false_iff_not, Bool.and_eq_true, Bool.or_eq_true, Bool.and_eq_false_iff, Bool.or_eq_false_iff, Bool.not_eq_true', Bool.not_eq_false', beq_iff_eq, bne_iff_ne]; omega) | simp_all) (fun hg17_2 => ?_)
      refine LW.skip rfl (fun _ e => by cases e; decide) rfl hg17_2 ?_
      refine LW.skip rfl (fun _ e => by cases e; decide) rfl hg17_2 ?_
      refine LW.skip rfl (fun _ e => by cases e; decide) rfl hg17_2 ?_
      refine LW.skip rfl (fun _ e => by cases e; decide) rfl hg17_2 ?_
      refine LW.skip rfl (fun _ e => by cases e; decide) rfl hg17_2 ?_
      refine LW.skipU rfl (fun _ e => by cases e; decide) rfl ?_
      refine LW.skipU rfl (fun _ e => by cases e; decide) rfl ?_
      refine LW.skipU rfl (fun _ e => by cases e; decide) rfl ?_
      refine LW.skipU rfl (fun _ e => by cases e; decide) rfl ?_
      refine LW.skip rfl (fun _ e => by cases e; decide) rfl hg17_2 ?_
      refine r_pickF rfl rfl hg17_2 ?_
      refine r_assign rfl ?_
      refine LW.nil ?_
      refine thenE_norm ?_
      refine cut (K := K20) [7, 9, 13, 16, 19, 22, 25, 28] (fun σ => ?_)
      simp only [setL, keepE, upd_get, ev, Nat.reduceEqDiff, ↓reduceIte]
      refine h20 _ _ ?_; clear h20; try clear K20
      refine CW.seq (fun K21 h21 => ?_)
      refine CW.seq (fun K22 h22 => ?_)
      refine CW.region ?_
      refine r_move rfl ?_
      refine r_eql rfl rfl rfl ?_
      refine r_move rfl ?_
      refine r_neqB rfl Try.underlying4 rfl rfl ?_
      refine r_move rfl ?_
      refine LW.known (t := 125) (c := false) rfl (by first | rfl | (simp only [decide_eq_true_eq, decide_eq_false_iff_not, Bool.and_eq_true, Bool.or_eq_true, Bool.and_eq_false_iff, Bool.or_eq_false_iff, Bool.not_eq_true', Bool.not_eq_false', beq_iff_eq, bne_iff_ne]; omega) | simp_all) (fun hg18_5 => ?_)
      refine LW.want rfl rfl hg18_5 ?_
      refine r_move rfl ?_
      refine LW.want rfl rfl hg18_5 ?_
      refine r_not rfl rfl ?_
      refine LW.want rfl rfl hg18_5 ?_
      refine r_move rfl ?_
      refine LW.known (t := 128) (c := true) rfl (by first | rfl | (simp only [decide_eq_true_eq, decide_eq_false_iff_not, Bool.and_eq_true, Bool.or_eq_true, Bool.and_eq_false_iff, Bool.or_eq_false_iff, Bool.not_eq_true', Bool.not_eq_false', beq_iff_eq, bne_iff_ne]; omega) | simp_all) (fun hg18_8 => ?_)
      refine LW.want rfl rfl hg18_8 ?_
      refine r_move rfl ?_
      refine LW.want rfl rfl hg18_8 ?_
      refine r_neq rfl rfl rfl ?_
      refine LW.want rfl rfl hg18_5 ?_
      refine r_pickT rfl rfl hg18_8 ?_
      refine r_pickF rfl rfl hg18_5 ?_
      refine r_move rfl ?_
      refine LW.known (t := 133) (c := false) rfl (by first | rfl | (simp only [decide_eq_true_eq, decide_eq_false_iff_not, Bool.and_eq_true, Bool.or_eq_true, Bool.and_eq_false_iff, Bool.or_eq_false_iff, Bool.not_eq_true', Bool.not_eq_false', beq_iff_eq, bne_iff_ne]; omega) | simp_all) (fun hg18_13 => ?_)
      refine LW.want rfl rfl hg18_13 ?_
      refine r_move rfl ?_
      refine LW.want rfl rfl hg18_13 ?_
      refine r_neq rfl rfl rfl ?_
      refine r_pickF rfl rfl hg18_13 ?_
      refine r_move rfl ?_
      refine LW.known (t := 137) (c := false) rfl (by first | rfl | (simp only [decide_eq_true_eq, decide_eq_false_iff_not, Bool.and_eq_true, Bool.or_eq_true, Bool.and_eq_false_iff, Bool.or_eq_false_iff, Bool.not_eq_true', Bool.not_eq_false', beq_iff_eq, bne_iff_ne]; omega) | simp_all) (fun hg18_17 => ?_)
      refine LW.want rfl rfl hg18_17 ?_
      refine r_move rfl ?_
      refine LW.want rfl rfl hg18_17 ?_
      refine r_not rfl rfl ?_
      refine LW.want rfl rfl hg18_17 ?_
      refine r_move rfl ?_
      refine LW.known (t := 140) (c := true) rfl (by first | rfl | (simp only [decide_eq_true_eq, decide_eq_false_iff_not, Bool.and_eq_true, Bool.or_eq_true, Bool.and_eq_false_iff, Bool.or_eq_false_iff, Bool.not_eq_true', Bool.not_eq_false', beq_iff_eq, bne_iff_ne]; omega) | simp_all) (fun hg18_20 => ?_)
      refine LW.want rfl rfl hg18_20 ?_
      refine r_move rfl ?_
      refine LW.want rfl rfl hg18_20 ?_
      refine r_neq rfl rfl rfl ?_
      refine LW.want rfl rfl hg18_17 ?_
      refine r_pickT rfl rfl hg18_20 ?_
      refine LW.want rfl rfl hg18_17 ?_
      refine r_move rfl ?_
      refine LW.known (t := 144) (c := true) rfl (by first | rfl | (simp only [decide_eq_true_eq, decide_eq_false_iff_not, Bool.and_eq_true, Bool.or_eq_true, Bool.and_eq_false_iff, Bool.or_eq_false_iff, Bool.not_eq_true', Bool.not_eq_false', beq_iff_eq, bne_iff_ne]; omega) | simp_all) (fun hg18_24 => ?_)
      refine LW.want rfl rfl hg18_24 ?_
      refine r_move rfl ?_
      refine LW.want rfl rfl hg18_24 ?_
      refine r_neq rfl rfl rfl ?_
      refine LW.want rfl rfl hg18_24 ?_
      refine r_move rfl ?_
      refine LW.known (t := 147) (c := false) rfl (by first | rfl | (simp only [decide_eq_true_eq, decide_eq_false_iff_not, Bool.and_eq_true, Bool.or_eq_true, Bool.and_eq_false_iff, Bool.or_eq_false_iff, Bool.not_eq_true', Bool.not_eq_false', beq_iff_eq, bne_iff_ne]; omega) | simp_all) (fun hg18_27 => ?_)
      refine LW.want rfl rfl hg18_27 ?_
      refine r_move rfl ?_
      refine LW.want rfl rfl hg18_27 ?_
      first
        | refine r_lenV rfl Try.underlying48 (by simp only [upd_get, ev, Nat.reduceEqDiff, ↓reduceIte] <;> rfl) (by first | assumption | exact SH.rsR H (by (repeat first | exact At.here | apply At.there); done) | exact SH.rsO H (by (repeat first | exact At.here | apply At.there); done) | exact (Rs.nil : Rs Non _ _ _)) ?_
        | refine r_len rfl Try.underlying48 rfl ?_
      refine LW.want rfl rfl hg18_27 ?_
      refine r_lss rfl rfl rfl ?_
      refine LW.want rfl rfl hg18_24 ?_
      refine r_pickF rfl rfl hg18_27 ?_
      refine LW.want rfl rfl hg18_17 ?_
      refine r_pickT rfl rfl hg18_24 ?_
      refine r_pickF rfl rfl hg18_17 ?_
      refine LW.nil ?_
      refine thenE_norm ?_
      refine cut (K := K22) [7, 9, 25, 153] (fun σ => ?_)
      simp only [setL, keepE, upd_get, ev, Nat.reduceEqDiff, ↓reduceIte]
      refine h22 _ _ ?_; clear h22; try clear K22
      refine CW.condF rfl (by first | rfl | (simp; done) | (simp; omega)) ?_
      refine CW.skip ?_
      refine thenE_norm (h21 _ _ ?_); clear h21; try clear K21
      refine CW.seq (fun K23 h23 => ?_)
      by_cases h4' : 4 ≤ ms.length
      · rw [take_full hom h4']
        dsimp only
        refine CW.region ?_
        refine r_move rfl ?_
        refine r_eql rfl rfl rfl ?_
        refine r_move rfl ?_
        first
          | refine r_lenV rfl Try.underlying48 (by simp only [upd_get, ev, Nat.reduceEqDiff, ↓reduceIte] <;> rfl) (by first | assumption | exact SH.rsR H (by (repeat first | exact At.here | apply At.there); done) | exact SH.rsO H (by (repeat first | exact At.here | apply At.there); done) | exact (Rs.nil : Rs Non _ _ _)) ?_
          | refine r_len rfl Try.underlying48 rfl ?_
        refine r_lss rfl rfl rfl ?_
        refine r_eqlB rfl Try.underlying4 rfl rfl ?_
        refine r_move rfl ?_
        refine LW.known (t := 160) (c := true) rfl (by first | (simp; done) | (simp; omega)) (fun hg20_7 => ?_)
        refine LW.want rfl rfl hg20_7 ?_
        refine r_move rfl ?_
        refine LW.want rfl rfl hg20_7 ?_
        refine r_eql rfl rfl rfl ?_
        refine LW.want rfl rfl hg20_7 ?_
        refine r_move rfl ?_
        refine LW.known (t := 163) (c := false) rfl (by first | rfl | (simp only [decide_eq_true_eq, decide_eq_false_iff_not, Bool.and_eq_true, Bool.or_eq_true, Bool.and_eq_false_iff, Bool.or_eq_false_iff, Bool.not_eq_true', Bool.not_eq_false', beq_iff_eq, bne_iff_ne]; omega) | simp_all) (fun hg20_10 => ?_)
        refine LW.want rfl rfl hg20_10 ?_
        refine r_move rfl ?_
        refine LW.want rfl rfl hg20_10 ?_
        refine r_eql rfl rfl rfl ?_
        refine LW.want rfl rfl hg20_7 ?_
        refine r_pickF rfl rfl hg20_10 ?_
        refine r_pickT rfl rfl hg20_7 ?_
        refine r_move rfl ?_
        refine LW.known (t := 168) (c := true) rfl (by first | rfl | (simp only [decide_eq_true_eq, decide_eq_false_iff_not, Bool.and_eq_true, Bool.or_eq_true, Bool.and_eq_false_iff, Bool.or_eq_false_iff, Bool.not_eq_true', Bool.not_eq_false', beq_iff_eq, bne_iff_ne]; omega) | simp_all) (fun hg20_15 => ?_)
        refine LW.want rfl rfl hg20_15 ?_
        refine r_move rfl ?_
        refine LW.want rfl rfl hg20_15 ?_
        refine r_move rfl ?_
        refine LW.want rfl rfl hg20_15 ?_
        refine r_call rfl Try.call35 (by simp only [List.map_cons, List.map_nil, List.map_toArray, List.toList_toArray, upd_get, ev, Nat.reduceEqDiff, ↓reduceIte] <;> rfl) (SameLocks_c _ (SH.rsR H (i := 0) rfl) (SH.rsO H (i := 2) rfl) (SH.propI H (i := 1) rfl) (SH.prop H (i := 3) rfl)) ?_
        rintro _ w20_17 ⟨rfl, X⟩
        refine ⟨_, rfl, ?_⟩
        replace H := SH.same H X
        clear X
        refine r_pickT rfl rfl hg20_15 ?_
        refine r_move rfl ?_
        refine LW.known (t := 173) (c := true) rfl (by simp) (fun hg20_20 => ?_)
        refine LW.want rfl rfl hg20_20 ?_
        refine r_call rfl Try.call31 (by simp only [List.map_cons, List.map_nil, List.map_toArray, List.toList_toArray, upd_get, ev, Nat.reduceEqDiff, ↓reduceIte] <;> rfl) (awake8_c _) ?_
        rintro _ w20_20 ⟨rfl, X⟩
        refine ⟨_, rfl, ?_⟩
        replace H := SH.same H X
        clear X
        refine r_pickT rfl rfl hg20_20 ?_
        refine r_assign rfl ?_
        refine LW.nil ?_
        refine thenE_norm ?_
        refine cut (K := K23) [6] (fun σ => ?_)
        simp only [setL, keepE, upd_get, ev, Nat.reduceEqDiff, ↓reduceIte]
        refine h23 _ _ ?_; clear h23; try clear K23
        refine CW.ret (ret1 Try.results9 (by simp only [upd_get, ev, Nat.reduceEqDiff, ↓reduceIte]; rfl) ?_)
        exact ⟨rfl, H.ext⟩
      · rw [take_new hom h4']
        dsimp only
        refine CW.region ?_
        refine r_move rfl ?_
        refine r_eql rfl rfl rfl ?_
        refine r_move rfl ?_
        first
          | refine r_lenV rfl Try.underlying48 (by simp only [upd_get, ev, Nat.reduceEqDiff, ↓reduceIte] <;> rfl) (by first | assumption | exact SH.rsR H (by (repeat first | exact At.here | apply At.there); done) | exact SH.rsO H (by (repeat first | exact At.here | apply At.there); done) | exact (Rs.nil : Rs Non _ _ _)) ?_
          | refine r_len rfl Try.underlying48 rfl ?_
        refine r_lss rfl rfl rfl ?_
        refine r_eqlB rfl Try.underlying4 rfl rfl ?_
        refine r_move rfl ?_
        refine LW.known (t := 160) (c := true) rfl (by first | (simp; done) | (simp; omega)) (fun hg20_7 => ?_)
        refine LW.want rfl rfl hg20_7 ?_
        refine r_move rfl ?_
        refine LW.want rfl rfl hg20_7 ?_
        refine r_eql rfl rfl rfl ?_
        refine LW.want rfl rfl hg20_7 ?_
        refine r_move rfl ?_
        refine LW.known (t := 163) (c := true) rfl (by first | rfl | (simp only [decide_eq_true_eq, decide_eq_false_iff_not, Bool.and_eq_true, Bool.or_eq_true, Bool.and_eq_false_iff, Bool.or_eq_false_iff, Bool.not_eq_true', Bool.not_eq_false', beq_iff_eq, bne_iff_ne]; omega) | simp_all) (fun hg20_10 => ?_)
        refine LW.skip rfl (fun _ e => by cases e; decide) rfl hg20_10 ?_
        refine LW.skip rfl (fun _ e => by cases e; decide) rfl hg20_10 ?_
        refine LW.want rfl rfl hg20_7 ?_
        refine r_pickT rfl rfl hg20_10 ?_
        refine r_pickT rfl rfl hg20_7 ?_
        refine r_move rfl ?_
        refine LW.known (t := 168) (c := true) rfl (by first | rfl | (simp only [decide_eq_true_eq, decide_eq_false_iff_not, Bool.and_eq_true, Bool.or_eq_true, Bool.and_eq_false_iff, Bool.or_eq_false_iff, Bool.not_eq_true', Bool.not_eq_false', beq_iff_eq, bne_iff_ne]; omega) | simp_all) (fun hg20_15 => ?_)
        refine LW.want rfl rfl hg20_15 ?_
        refine r_move rfl ?_
        refine LW.want rfl rfl hg20_15 ?_
        refine r_move rfl ?_
        refine LW.want rfl rfl hg20_15 ?_
        refine r_call rfl Try.call35 (by simp only [List.map_cons, List.map_nil, List.map_toArray, List.toList_toArray, upd_get, ev, Nat.reduceEqDiff, ↓reduceIte] <;> rfl) (SameLocks_c _ (SH.rsR H (i := 0) rfl) (SH.rsO H (i := 2) rfl) (SH.propI H (i := 1) rfl) (SH.prop H (i := 3) rfl)) ?_
        rintro _ w20_17 ⟨rfl, X⟩
        refine ⟨_, rfl, ?_⟩
        replace H := SH.same H X
        clear X
        refine r_pickT rfl rfl hg20_15 ?_
        refine r_move rfl ?_
        refine LW.known (t := 173) (c := true) rfl (by simp) (fun hg20_20 => ?_)
        refine LW.want rfl rfl hg20_20 ?_
        refine r_call rfl Try.call31 (by simp only [List.map_cons, List.map_nil, List.map_toArray, List.toList_toArray, upd_get, ev, Nat.reduceEqDiff, ↓reduceIte] <;> rfl) (awake8_c _) ?_
        rintro _ w20_20 ⟨rfl, X⟩
        refine ⟨_, rfl, ?_⟩
        replace H := SH.same H X
        clear X
        refine r_pickT rfl rfl hg20_20 ?_
        refine r_assign rfl ?_
        refine LW.nil ?_
        refine thenE_norm ?_
        refine cut (K := K23) [6] (fun σ => ?_)
        simp only [setL, keepE, upd_get, ev, Nat.reduceEqDiff, ↓reduceIte]
        refine h23 _ _ ?_; clear h23; try clear K23
        refine CW.ret (ret1 Try.results9 (by simp only [upd_get, ev, Nat.reduceEqDiff, ↓reduceIte]; rfl) ?_)
        exact ⟨rfl, H.ext⟩
    · rw [findL_none hf] at H ⊢
      rw [free_none hf, take_new hf h4]
      dsimp only at H ⊢
      refine CW.region ?_
      refine r_move rfl ?_
      refine r_move rfl ?_
      refine LW.known (t := 109) (c := false) rfl (by first | rfl | (simp only [decide_eq_true_eq, decide_eq_false_iff_not, Bool.and_eq_true, Bool.or_eq_true, Bool.and_eq_false_iff, Bool.or_eq_false_iff, Bool.not_eq_true', Bool.not_eq_false', beq_iff_eq, bne_iff_ne]; omega) | simp_all) (fun hg17_2 => ?_)
      refine LW.skip rfl (fun _ e => by cases e; decide) rfl hg17_2 ?_
      refine LW.skip rfl (fun _ e => by cases e; decide) rfl hg17_2 ?_
      refine LW.skip rfl (fun _ e => by cases e; decide) rfl hg17_2 ?_
      refine LW.skip rfl (fun _ e => by cases e; decide) rfl hg17_2 ?_
      refine LW.skip rfl (fun _ e => by cases e; decide) rfl hg17_2 ?_
      refine LW.skipU rfl (fun _ e => by cases e; decide) rfl ?_
      refine LW.skipU rfl (fun _ e => by cases e; decide) rfl ?_
      refine LW.skipU rfl (fun _ e => by cases e; decide) rfl ?_
      refine LW.skipU rfl (fun _ e => by cases e; decide) rfl ?_
      refine LW.skip rfl (fun _ e => by cases e; decide) rfl hg17_2 ?_
      refine r_pickF rfl rfl hg17_2 ?_
      refine r_assign rfl ?_
      refine LW.nil ?_
      refine thenE_norm ?_
      refine cut (K := K20) [7, 9, 13, 16, 19, 22, 25, 28] (fun σ => ?_)
      simp only [setL, keepE, upd_get, ev, Nat.reduceEqDiff, ↓reduceIte]
      refine h20 _ _ ?_; clear h20; try clear K20
      refine CW.seq (fun K24 h24 => ?_)
      refine CW.seq (fun K25 h25 => ?_)
      refine CW.region ?_
      refine r_move rfl ?_
      refine r_eql rfl rfl rfl ?_
      refine r_move rfl ?_
      refine r_neqB rfl Try.underlying4 rfl rfl ?_
      refine r_move rfl ?_
      refine LW.known (t := 125) (c := false) rfl (by first | rfl | (simp only [decide_eq_true_eq, decide_eq_false_iff_not, Bool.and_eq_true, Bool.or_eq_true, Bool.and_eq_false_iff, Bool.or_eq_false_iff, Bool.not_eq_true', Bool.not_eq_false', beq_iff_eq, bne_iff_ne]; omega) | simp_all) (fun hg18_5 => ?_)
      refine LW.want rfl rfl hg18_5 ?_
      refine r_move rfl ?_
      refine LW.want rfl rfl hg18_5 ?_
      refine r_not rfl rfl ?_
      refine LW.want rfl rfl hg18_5 ?_
      refine r_move rfl ?_
      refine LW.known (t := 128) (c := true) rfl (by first | rfl | (simp only [decide_eq_true_eq, decide_eq_false_iff_not, Bool.and_eq_true, Bool.or_eq_true, Bool.and_eq_false_iff, Bool.or_eq_false_iff, Bool.not_eq_true', Bool.not_eq_false', beq_iff_eq, bne_iff_ne]; omega) | simp_all) (fun hg18_8 => ?_)
      refine LW.want rfl rfl hg18_8 ?_
      refine r_move rfl ?_
      refine LW.want rfl rfl hg18_8 ?_
      refine r_neq rfl rfl rfl ?_
      refine LW.want rfl rfl hg18_5 ?_
      refine r_pickT rfl rfl hg18_8 ?_
      refine r_pickF rfl rfl hg18_5 ?_
      refine r_move rfl ?_
      refine LW.known (t := 133) (c := false) rfl (by first | rfl | (simp only [decide_eq_true_eq, decide_eq_false_iff_not, Bool.and_eq_true, Bool.or_eq_true, Bool.and_eq_false_iff, Bool.or_eq_false_iff, Bool.not_eq_true', Bool.not_eq_false', beq_iff_eq, bne_iff_ne]; omega) | simp_all) (fun hg18_13 => ?_)
      refine LW.want rfl rfl hg18_13 ?_
      refine r_move rfl ?_
      refine LW.want rfl rfl hg18_13 ?_
      refine r_neq rfl rfl rfl ?_
      refine r_pickF rfl rfl hg18_13 ?_
      refine r_move rfl ?_
      refine LW.known (t := 137) (c := false) rfl (by first | rfl | (simp only [decide_eq_true_eq, decide_eq_false_iff_not, Bool.and_eq_true, Bool.or_eq_true, Bool.and_eq_false_iff, Bool.or_eq_false_iff, Bool.not_eq_true', Bool.not_eq_false', beq_iff_eq, bne_iff_ne]; omega) | simp_all) (fun hg18_17 => ?_)
      refine LW.want rfl rfl hg18_17 ?_
      refine r_move rfl ?_
      refine LW.want rfl rfl hg18_17 ?_
      refine r_not rfl rfl ?_
      refine LW.want rfl rfl hg18_17 ?_
      refine r_move rfl ?_
      refine LW.known (t := 140) (c := true) rfl (by first | rfl | (simp only [decide_eq_true_eq, decide_eq_false_iff_not, Bool.and_eq_true, Bool.or_eq_true, Bool.and_eq_false_iff, Bool.or_eq_false_iff, Bool.not_eq_true', Bool.not_eq_false', beq_iff_eq, bne_iff_ne]; omega) | simp_all) (fun hg18_20 => ?_)
      refine LW.want rfl rfl hg18_20 ?_
      refine r_move rfl ?_
      refine LW.want rfl rfl hg18_20 ?_
      refine r_neq rfl rfl rfl ?_
      refine LW.want rfl rfl hg18_17 ?_
      refine r_pickT rfl rfl hg18_20 ?_
      refine LW.want rfl rfl hg18_17 ?_
      refine r_move rfl ?_
      refine LW.known (t := 144) (c := false) rfl (by first | rfl | (simp only [decide_eq_true_eq, decide_eq_false_iff_not, Bool.and_eq_true, Bool.or_eq_true, Bool.and_eq_false_iff, Bool.or_eq_false_iff, Bool.not_eq_true', Bool.not_eq_false', beq_iff_eq, bne_iff_ne]; omega) | simp_all) (fun hg18_24 => ?_)
      refine LW.skip rfl (fun _ e => by cases e; decide) rfl hg18_24 ?_
      refine LW.skip rfl (fun _ e => by cases e; decide) rfl hg18_24 ?_
      refine LW.skip rfl (fun _ e => by cases e; decide) rfl hg18_24 ?_
      refine LW.skipU rfl (fun _ e => by cases e; decide) rfl ?_
      refine LW.skipU rfl (fun _ e => by cases e; decide) rfl ?_
      refine LW.skipU rfl (fun _ e => by cases e; decide) rfl ?_
      refine LW.skip rfl (fun _ e => by cases e; decide) rfl hg18_24 ?_
      refine LW.want rfl rfl hg18_17 ?_
      refine r_pickF rfl rfl hg18_24 ?_
      refine r_pickF rfl rfl hg18_17 ?_
      refine LW.nil ?_
      refine thenE_norm ?_
      refine cut (K := K25) [7, 9, 25, 153] (fun σ => ?_)
      simp only [setL, keepE, upd_get, ev, Nat.reduceEqDiff, ↓reduceIte]
      refine h25 _ _ ?_; clear h25; try clear K25
      refine CW.condF rfl (by first | rfl | (simp; done) | (simp; omega)) ?_
      refine CW.skip ?_
      refine thenE_norm (h24 _ _ ?_); clear h24; try clear K24
      refine CW.seq (fun K26 h26 => ?_)
      by_cases h4' : 4 ≤ ms.length
      · rw [take_full hom h4']
        dsimp only
        refine CW.region ?_
        refine r_move rfl ?_
        refine r_eql rfl rfl rfl ?_
        refine r_move rfl ?_
        first
          | refine r_lenV rfl Try.underlying48 (by simp only [upd_get, ev, Nat.reduceEqDiff, ↓reduceIte] <;> rfl) (by first | assumption | exact SH.rsR H (by (repeat first | exact At.here | apply At.there); done) | exact SH.rsO H (by (repeat first | exact At.here | apply At.there); done) | exact (Rs.nil : Rs Non _ _ _)) ?_
          | refine r_len rfl Try.underlying48 rfl ?_
        refine r_lss rfl rfl rfl ?_
        refine r_eqlB rfl Try.underlying4 rfl rfl ?_
        refine r_move rfl ?_
        refine LW.known (t := 160) (c := true) rfl (by first | (simp; done) | (simp; omega)) (fun hg20_7 => ?_)
        refine LW.want rfl rfl hg20_7 ?_
        refine r_move rfl ?_
        refine LW.want rfl rfl hg20_7 ?_
        refine r_eql rfl rfl rfl ?_
        refine LW.want rfl rfl hg20_7 ?_
        refine r_move rfl ?_
        refine LW.known (t := 163) (c := false) rfl (by first | rfl | (simp only [decide_eq_true_eq, decide_eq_false_iff_not, Bool.and_eq_true, Bool.or_eq_true, Bool.and_eq_false_iff, Bool.or_eq_false_iff, Bool.not_eq_true', Bool.not_eq_false', beq_iff_eq, bne_iff_ne]; omega) | simp_all) (fun hg20_10 => ?_)
        refine LW.want rfl rfl hg20_10 ?_
        refine r_move rfl ?_
        refine LW.want rfl rfl hg20_10 ?_
        refine r_eql rfl rfl rfl ?_
        refine LW.want rfl rfl hg20_7 ?_
        refine r_pickF rfl rfl hg20_10 ?_
        refine r_pickT rfl rfl hg20_7 ?_
        refine r_move rfl ?_
        refine LW.known (t := 168) (c := true) rfl (by first | rfl | (simp only [decide_eq_true_eq, decide_eq_false_iff_not, Bool.and_eq_true, Bool.or_eq_true, Bool.and_eq_false_iff, Bool.or_eq_false_iff, Bool.not_eq_true', Bool.not_eq_false', beq_iff_eq, bne_iff_ne]; omega) | simp_all) (fun hg20_15 => ?_)
        refine LW.want rfl rfl hg20_15 ?_
        refine r_move rfl ?_
        refine LW.want rfl rfl hg20_15 ?_
        refine r_move rfl ?_
        refine LW.want rfl rfl hg20_15 ?_
        refine r_call rfl Try.call35 (by simp only [List.map_cons, List.map_nil, List.map_toArray, List.toList_toArray, upd_get, ev, Nat.reduceEqDiff, ↓reduceIte] <;> rfl) (SameLocks_c _ (SH.rsR H (i := 0) rfl) (SH.rsO H (i := 2) rfl) (SH.propI H (i := 1) rfl) (SH.prop H (i := 3) rfl)) ?_
        rintro _ w20_17 ⟨rfl, X⟩
        refine ⟨_, rfl, ?_⟩
        replace H := SH.same H X
        clear X
        refine r_pickT rfl rfl hg20_15 ?_
        refine r_move rfl ?_
        refine LW.known (t := 173) (c := true) rfl (by simp) (fun hg20_20 => ?_)
        refine LW.want rfl rfl hg20_20 ?_
        refine r_call rfl Try.call31 (by simp only [List.map_cons, List.map_nil, List.map_toArray, List.toList_toArray, upd_get, ev, Nat.reduceEqDiff, ↓reduceIte] <;> rfl) (awake8_c _) ?_
        rintro _ w20_20 ⟨rfl, X⟩
        refine ⟨_, rfl, ?_⟩
        replace H := SH.same H X
        clear X
        refine r_pickT rfl rfl hg20_20 ?_
        refine r_assign rfl ?_
        refine LW.nil ?_
        refine thenE_norm ?_
        refine cut (K := K26) [6] (fun σ => ?_)
        simp only [setL, keepE, upd_get, ev, Nat.reduceEqDiff, ↓reduceIte]
        refine h26 _ _ ?_; clear h26; try clear K26
        refine CW.ret (ret1 Try.results9 (by simp only [upd_get, ev, Nat.reduceEqDiff, ↓reduceIte]; rfl) ?_)
        exact ⟨rfl, H.ext⟩
      · rw [take_new hom h4']
        dsimp only
        refine CW.region ?_
        refine r_move rfl ?_
        refine r_eql rfl rfl rfl ?_
        refine r_move rfl ?_
        first
          | refine r_lenV rfl Try.underlying48 (by simp only [upd_get, ev, Nat.reduceEqDiff, ↓reduceIte] <;> rfl) (by first | assumption | exact SH.rsR H (by (repeat first | exact At.here | apply At.there); done) | exact SH.rsO H (by (repeat first | exact At.here | apply At.there); done) | exact (Rs.nil : Rs Non _ _ _)) ?_
          | refine r_len rfl Try.underlying48 rfl ?_
        refine r_lss rfl rfl rfl ?_
        refine r_eqlB rfl Try.underlying4 rfl rfl ?_
        refine r_move rfl ?_
        refine LW.known (t := 160) (c := true) rfl (by first | (simp; done) | (simp; omega)) (fun hg20_7 => ?_)
        refine LW.want rfl rfl hg20_7 ?_
        refine r_move rfl ?_
        refine LW.want rfl rfl hg20_7 ?_
        refine r_eql rfl rfl rfl ?_
        refine LW.want rfl rfl hg20_7 ?_
        refine r_move rfl ?_
        refine LW.known (t := 163) (c := true) rfl (by first | rfl | (simp only [decide_eq_true_eq, decide_eq_false_iff_not, Bool.and_eq_true, Bool.or_eq_true, Bool.and_eq_false_iff, Bool.or_eq_false_iff, Bool.not_eq_true', Bool.not_eq_false', beq_iff_eq, bne_iff_ne]; omega) | simp_all) (fun hg20_10 => ?_)
        refine LW.skip rfl (fun _ e => by cases e; decide) rfl hg20_10 ?_
        refine LW.skip rfl (fun _ e => by cases e; decide) rfl hg20_10 ?_
        refine LW.want rfl rfl hg20_7 ?_
        refine r_pickT rfl rfl hg20_10 ?_
        refine r_pickT rfl rfl hg20_7 ?_
        refine r_move rfl ?_
        refine LW.known (t := 168) (c := true) rfl (by first | rfl | (simp only [decide_eq_true_eq, decide_eq_false_iff_not, Bool.and_eq_true, Bool.or_eq_true, Bool.and_eq_false_iff, Bool.or_eq_false_iff, Bool.not_eq_true', Bool.not_eq_false', beq_iff_eq, bne_iff_ne]; omega) | simp_all) (fun hg20_15 => ?_)
        refine LW.want rfl rfl hg20_15 ?_
        refine r_move rfl ?_
        refine LW.want rfl rfl hg20_15 ?_
        refine r_move rfl ?_
        refine LW.want rfl rfl hg20_15 ?_
        refine r_call rfl Try.call35 (by simp only [List.map_cons, List.map_nil, List.map_toArray, List.toList_toArray, upd_get, ev, Nat.reduceEqDiff, ↓reduceIte] <;> rfl) (SameLocks_c _ (SH.rsR H (i := 0) rfl) (SH.rsO H (i := 2) rfl) (SH.propI H (i := 1) rfl) (SH.prop H (i := 3) rfl)) ?_
        rintro _ w20_17 ⟨rfl, X⟩
        refine ⟨_, rfl, ?_⟩
        replace H := SH.same H X
        clear X
        refine r_pickT rfl rfl hg20_15 ?_
        refine r_move rfl ?_
        refine LW.known (t := 173) (c := true) rfl (by simp) (fun hg20_20 => ?_)
        refine LW.want rfl rfl hg20_20 ?_
        refine r_call rfl Try.call31 (by simp only [List.map_cons, List.map_nil, List.map_toArray, List.toList_toArray, upd_get, ev, Nat.reduceEqDiff, ↓reduceIte] <;> rfl) (awake8_c _) ?_
        rintro _ w20_20 ⟨rfl, X⟩
        refine ⟨_, rfl, ?_⟩
        replace H := SH.same H X
        clear X
        refine r_pickT rfl rfl hg20_20 ?_
        refine r_assign rfl ?_
        refine LW.nil ?_
        refine thenE_norm ?_
        refine cut (K := K26) [6] (fun σ => ?_)
        simp only [setL, keepE, upd_get, ev, Nat.reduceEqDiff, ↓reduceIte]
        refine h26 _ _ ?_; clear h26; try clear K26
        refine CW.ret (ret1 Try.results9 (by simp only [upd_get, ev, Nat.reduceEqDiff, ↓reduceIte]; rfl) ?_)
        exact ⟨rfl, H.ext⟩
    · rw [findL_some hf] at H ⊢
      have hfr : (freeM ms s c tok).2.2 = 0 := by
        by_cases hz : k.line = []
        · rw [free_gone hf h1 hz]
        · rw [free_next hf h1 hz]
      rw [hfr]
      dsimp only at H ⊢
      refine CW.region ?_
      refine r_move rfl ?_
      refine r_move rfl ?_
      refine LW.known (t := 109) (c := true) rfl (by first | rfl | (simp only [decide_eq_true_eq, decide_eq_false_iff_not, Bool.and_eq_true, Bool.or_eq_true, Bool.and_eq_false_iff, Bool.or_eq_false_iff, Bool.not_eq_true', Bool.not_eq_false', beq_iff_eq, bne_iff_ne]; omega) | simp_all) (fun hg17_2 => ?_)
      refine LW.want rfl rfl hg17_2 ?_
      refine r_fieldAddrO rfl Try.underlying53 rfl Try.sizeOf3 (by decide) (show _ = 1 from rfl) rfl ?_
      refine LW.want rfl rfl hg17_2 ?_
      refine r_load rfl Try.isAgg3 rfl (by first | exact SH.cellB H (by (repeat first | exact At.here | apply At.there); done) (by rfl) | assumption) ?_
      refine LW.want rfl rfl hg17_2 ?_
      refine r_move rfl ?_
      refine LW.want rfl rfl hg17_2 ?_
      refine r_eql rfl rfl rfl ?_
      refine LW.want rfl rfl hg17_2 ?_
      refine r_move rfl ?_
      refine LW.known (t := 114) (c := true) rfl (decide_eq_true h1) (fun hg17_7 => ?_)
      refine LW.skip rfl (fun _ e => by cases e; decide) rfl hg17_7 ?_
      refine LW.skip rfl (fun _ e => by cases e; decide) rfl hg17_7 ?_
      refine LW.skip rfl (fun _ e => by cases e; decide) rfl hg17_7 ?_
      refine LW.skip rfl (fun _ e => by cases e; decide) rfl hg17_7 ?_
      refine LW.want rfl rfl hg17_2 ?_
      refine r_pickT rfl rfl hg17_7 ?_
      refine r_pickT rfl rfl hg17_2 ?_
      refine r_assign rfl ?_
      refine LW.nil ?_
      refine thenE_norm ?_
      refine cut (K := K20) [7, 9, 13, 16, 19, 22, 25, 28] (fun σ => ?_)
      simp only [setL, keepE, upd_get, ev, Nat.reduceEqDiff, ↓reduceIte]
      refine h20 _ _ ?_; clear h20; try clear K20
      refine CW.seq (fun K27 h27 => ?_)
      refine CW.seq (fun K28 h28 => ?_)
      refine CW.region ?_
      refine r_move rfl ?_
      refine r_eql rfl rfl rfl ?_
      refine r_move rfl ?_
      refine r_neqB rfl Try.underlying4 rfl rfl ?_
      refine r_move rfl ?_
      refine LW.known (t := 125) (c := false) rfl (by first | rfl | (simp only [decide_eq_true_eq, decide_eq_false_iff_not, Bool.and_eq_true, Bool.or_eq_true, Bool.and_eq_false_iff, Bool.or_eq_false_iff, Bool.not_eq_true', Bool.not_eq_false', beq_iff_eq, bne_iff_ne]; omega) | simp_all) (fun hg18_5 => ?_)
      refine LW.want rfl rfl hg18_5 ?_
      refine r_move rfl ?_
      refine LW.want rfl rfl hg18_5 ?_
      refine r_not rfl rfl ?_
      refine LW.want rfl rfl hg18_5 ?_
      refine r_move rfl ?_
      refine LW.known (t := 128) (c := false) rfl (by first | rfl | (simp only [decide_eq_true_eq, decide_eq_false_iff_not, Bool.and_eq_true, Bool.or_eq_true, Bool.and_eq_false_iff, Bool.or_eq_false_iff, Bool.not_eq_true', Bool.not_eq_false', beq_iff_eq, bne_iff_ne]; omega) | simp_all) (fun hg18_8 => ?_)
      refine LW.skip rfl (fun _ e => by cases e; decide) rfl hg18_8 ?_
      refine LW.skip rfl (fun _ e => by cases e; decide) rfl hg18_8 ?_
      refine LW.want rfl rfl hg18_5 ?_
      refine r_pickF rfl rfl hg18_8 ?_
      refine r_pickF rfl rfl hg18_5 ?_
      refine r_move rfl ?_
      refine LW.known (t := 133) (c := false) rfl (by first | rfl | (simp only [decide_eq_true_eq, decide_eq_false_iff_not, Bool.and_eq_true, Bool.or_eq_true, Bool.and_eq_false_iff, Bool.or_eq_false_iff, Bool.not_eq_true', Bool.not_eq_false', beq_iff_eq, bne_iff_ne]; omega) | simp_all) (fun hg18_13 => ?_)
      refine LW.want rfl rfl hg18_13 ?_
      refine r_move rfl ?_
      refine LW.want rfl rfl hg18_13 ?_
      refine r_neq rfl rfl rfl ?_
      refine r_pickF rfl rfl hg18_13 ?_
      refine r_move rfl ?_
      refine LW.known (t := 137) (c := false) rfl (by first | rfl | (simp only [decide_eq_true_eq, decide_eq_false_iff_not, Bool.and_eq_true, Bool.or_eq_true, Bool.and_eq_false_iff, Bool.or_eq_false_iff, Bool.not_eq_true', Bool.not_eq_false', beq_iff_eq, bne_iff_ne]; omega) | simp_all) (fun hg18_17 => ?_)
      refine LW.want rfl rfl hg18_17 ?_
      refine r_move rfl ?_
      refine LW.want rfl rfl hg18_17 ?_
      refine r_not rfl rfl ?_
      refine LW.want rfl rfl hg18_17 ?_
      refine r_move rfl ?_
      refine LW.known (t := 140) (c := false) rfl (by first | rfl | (simp only [decide_eq_true_eq, decide_eq_false_iff_not, Bool.and_eq_true, Bool.or_eq_true, Bool.and_eq_false_iff, Bool.or_eq_false_iff, Bool.not_eq_true', Bool.not_eq_false', beq_iff_eq, bne_iff_ne]; omega) | simp_all) (fun hg18_20 => ?_)
      refine LW.skip rfl (fun _ e => by cases e; decide) rfl hg18_20 ?_
      refine LW.skip rfl (fun _ e => by cases e; decide) rfl hg18_20 ?_
      refine LW.want rfl rfl hg18_17 ?_
      refine r_pickF rfl rfl hg18_20 ?_
      refine LW.want rfl rfl hg18_17 ?_
      refine r_move rfl ?_
      refine LW.known (t := 144) (c := false) rfl (by first | rfl | (simp only [decide_eq_true_eq, decide_eq_false_iff_not, Bool.and_eq_true, Bool.or_eq_true, Bool.and_eq_false_iff, Bool.or_eq_false_iff, Bool.not_eq_true', Bool.not_eq_false', beq_iff_eq, bne_iff_ne]; omega) | simp_all) (fun hg18_24 => ?_)
      refine LW.skip rfl (fun _ e => by cases e; decide) rfl hg18_24 ?_
      refine LW.skip rfl (fun _ e => by cases e; decide) rfl hg18_24 ?_
      refine LW.skip rfl (fun _ e => by cases e; decide) rfl hg18_24 ?_
      refine LW.skipU rfl (fun _ e => by cases e; decide) rfl ?_
      refine LW.skipU rfl (fun _ e => by cases e; decide) rfl ?_
      refine LW.skipU rfl (fun _ e => by cases e; decide) rfl ?_
      refine LW.skip rfl (fun _ e => by cases e; decide) rfl hg18_24 ?_
      refine LW.want rfl rfl hg18_17 ?_
      refine r_pickF rfl rfl hg18_24 ?_
      refine r_pickF rfl rfl hg18_17 ?_
      refine LW.nil ?_
      refine thenE_norm ?_
      refine cut (K := K28) [7, 9, 25, 153] (fun σ => ?_)
      simp only [setL, keepE, upd_get, ev, Nat.reduceEqDiff, ↓reduceIte]
      refine h28 _ _ ?_; clear h28; try clear K28
      refine CW.condF rfl (by first | rfl | (simp; done) | (simp; omega)) ?_
      refine CW.skip ?_
      refine thenE_norm (h27 _ _ ?_); clear h27; try clear K27
      refine CW.seq (fun K29 h29 => ?_)
      by_cases h4' : 4 ≤ ms.length
      · rw [take_full hom h4']
        dsimp only
        refine CW.region ?_
        refine r_move rfl ?_
        refine r_eql rfl rfl rfl ?_
        refine r_move rfl ?_
        first
          | refine r_lenV rfl Try.underlying48 (by simp only [upd_get, ev, Nat.reduceEqDiff, ↓reduceIte] <;> rfl) (by first | assumption | exact SH.rsR H (by (repeat first | exact At.here | apply At.there); done) | exact SH.rsO H (by (repeat first | exact At.here | apply At.there); done) | exact (Rs.nil : Rs Non _ _ _)) ?_
          | refine r_len rfl Try.underlying48 rfl ?_
        refine r_lss rfl rfl rfl ?_
        refine r_eqlB rfl Try.underlying4 rfl rfl ?_
        refine r_move rfl ?_
        refine LW.known (t := 160) (c := true) rfl (by first | (simp; done) | (simp; omega)) (fun hg20_7 => ?_)
        refine LW.want rfl rfl hg20_7 ?_
        refine r_move rfl ?_
        refine LW.want rfl rfl hg20_7 ?_
        refine r_eql rfl rfl rfl ?_
        refine LW.want rfl rfl hg20_7 ?_
        refine r_move rfl ?_
        refine LW.known (t := 163) (c := false) rfl (by first | rfl | (simp only [decide_eq_true_eq, decide_eq_false_iff_not, Bool.and_eq_true, Bool.or_eq_true, Bool.and_eq_false_iff, Bool.or_eq_false_iff, Bool.not_eq_true', Bool.not_eq_false', beq_iff_eq, bne_iff_ne]; omega) | simp_all) (fun hg20_10 => ?_)
        refine LW.want rfl rfl hg20_10 ?_
        refine r_move rfl ?_
        refine LW.want rfl rfl hg20_10 ?_
        refine r_eql rfl rfl rfl ?_
        refine LW.want rfl rfl hg20_7 ?_
        refine r_pickF rfl rfl hg20_10 ?_
        refine r_pickT rfl rfl hg20_7 ?_
        refine r_move rfl ?_
        refine LW.known (t := 168) (c := true) rfl (by first | rfl | (simp only [decide_eq_true_eq, decide_eq_false_iff_not, Bool.and_eq_true, Bool.or_eq_true, Bool.and_eq_false_iff, Bool.or_eq_false_iff, Bool.not_eq_true', Bool.not_eq_false', beq_iff_eq, bne_iff_ne]; omega) | simp_all) (fun hg20_15 => ?_)
        refine LW.want rfl rfl hg20_15 ?_
        refine r_move rfl ?_
        refine LW.want rfl rfl hg20_15 ?_
        refine r_move rfl ?_
        refine LW.want rfl rfl hg20_15 ?_
        refine r_call rfl Try.call35 (by simp only [List.map_cons, List.map_nil, List.map_toArray, List.toList_toArray, upd_get, ev, Nat.reduceEqDiff, ↓reduceIte] <;> rfl) (SameLocks_c _ (SH.rsR H (i := 0) rfl) (SH.rsO H (i := 2) rfl) (SH.propI H (i := 1) rfl) (SH.prop H (i := 3) rfl)) ?_
        rintro _ w20_17 ⟨rfl, X⟩
        refine ⟨_, rfl, ?_⟩
        replace H := SH.same H X
        clear X
        refine r_pickT rfl rfl hg20_15 ?_
        refine r_move rfl ?_
        refine LW.known (t := 173) (c := true) rfl (by simp) (fun hg20_20 => ?_)
        refine LW.want rfl rfl hg20_20 ?_
        refine r_call rfl Try.call31 (by simp only [List.map_cons, List.map_nil, List.map_toArray, List.toList_toArray, upd_get, ev, Nat.reduceEqDiff, ↓reduceIte] <;> rfl) (awake8_c _) ?_
        rintro _ w20_20 ⟨rfl, X⟩
        refine ⟨_, rfl, ?_⟩
        replace H := SH.same H X
        clear X
        refine r_pickT rfl rfl hg20_20 ?_
        refine r_assign rfl ?_
        refine LW.nil ?_
        refine thenE_norm ?_
        refine cut (K := K29) [6] (fun σ => ?_)
        simp only [setL, keepE, upd_get, ev, Nat.reduceEqDiff, ↓reduceIte]
        refine h29 _ _ ?_; clear h29; try clear K29
        refine CW.ret (ret1 Try.results9 (by simp only [upd_get, ev, Nat.reduceEqDiff, ↓reduceIte]; rfl) ?_)
        exact ⟨rfl, H.ext⟩
      · rw [take_new hom h4']
        dsimp only
        refine CW.region ?_
        refine r_move rfl ?_
        refine r_eql rfl rfl rfl ?_
        refine r_move rfl ?_
        first
          | refine r_lenV rfl Try.underlying48 (by simp only [upd_get, ev, Nat.reduceEqDiff, ↓reduceIte] <;> rfl) (by first | assumption | exact SH.rsR H (by (repeat first | exact At.here | apply At.there); done) | exact SH.rsO H (by (repeat first | exact At.here | apply At.there); done) | exact (Rs.nil : Rs Non _ _ _)) ?_
          | refine r_len rfl Try.underlying48 rfl ?_
        refine r_lss rfl rfl rfl ?_
        refine r_eqlB rfl Try.underlying4 rfl rfl ?_
        refine r_move rfl ?_
        refine LW.known (t := 160) (c := true) rfl (by first | (simp; done) | (simp; omega)) (fun hg20_7 => ?_)
        refine LW.want rfl rfl hg20_7 ?_
        refine r_move rfl ?_
        refine LW.want rfl rfl hg20_7 ?_
        refine r_eql rfl rfl rfl ?_
        refine LW.want rfl rfl hg20_7 ?_
        refine r_move rfl ?_
        refine LW.known (t := 163) (c := true) rfl (by first | rfl | (simp only [decide_eq_true_eq, decide_eq_false_iff_not, Bool.and_eq_true, Bool.or_eq_true, Bool.and_eq_false_iff, Bool.or_eq_false_iff, Bool.not_eq_true', Bool.not_eq_false', beq_iff_eq, bne_iff_ne]; omega) | simp_all) (fun hg20_10 => ?_)
        refine LW.skip rfl (fun _ e => by cases e; decide) rfl hg20_10 ?_
        refine LW.skip rfl (fun _ e => by cases e; decide) rfl hg20_10 ?_
        refine LW.want rfl rfl hg20_7 ?_
        refine r_pickT rfl rfl hg20_10 ?_
        refine r_pickT rfl rfl hg20_7 ?_
        refine r_move rfl ?_
        refine LW.known (t := 168) (c := true) rfl (by first | rfl | (simp only [decide_eq_true_eq, decide_eq_false_iff_not, Bool.and_eq_true, Bool.or_eq_true, Bool.and_eq_false_iff, Bool.or_eq_false_iff, Bool.not_eq_true', Bool.not_eq_false', beq_iff_eq, bne_iff_ne]; omega) | simp_all) (fun hg20_15 => ?_)
        refine LW.want rfl rfl hg20_15 ?_
        refine r_move rfl ?_
        refine LW.want rfl rfl hg20_15 ?_
        refine r_move rfl ?_
        refine LW.want rfl rfl hg20_15 ?_
        refine r_call rfl Try.call35 (by simp only [List.map_cons, List.map_nil, List.map_toArray, List.toList_toArray, upd_get, ev, Nat.reduceEqDiff, ↓reduceIte] <;> rfl) (SameLocks_c _ (SH.rsR H (i := 0) rfl) (SH.rsO H (i := 2) rfl) (SH.propI H (i := 1) rfl) (SH.prop H (i := 3) rfl)) ?_
        rintro _ w20_17 ⟨rfl, X⟩
        refine ⟨_, rfl, ?_⟩
        replace H := SH.same H X
        clear X
        refine r_pickT rfl rfl hg20_15 ?_
        refine r_move rfl ?_
        refine LW.known (t := 173) (c := true) rfl (by simp) (fun hg20_20 => ?_)
        refine LW.want rfl rfl hg20_20 ?_
        refine r_call rfl Try.call31 (by simp only [List.map_cons, List.map_nil, List.map_toArray, List.toList_toArray, upd_get, ev, Nat.reduceEqDiff, ↓reduceIte] <;> rfl) (awake8_c _) ?_
        rintro _ w20_20 ⟨rfl, X⟩
        refine ⟨_, rfl, ?_⟩
        replace H := SH.same H X
        clear X
        refine r_pickT rfl rfl hg20_20 ?_
        refine r_assign rfl ?_
        refine LW.nil ?_
        refine thenE_norm ?_
        refine cut (K := K29) [6] (fun σ => ?_)
        simp only [setL, keepE, upd_get, ev, Nat.reduceEqDiff, ↓reduceIte]
        refine h29 _ _ ?_; clear h29; try clear K29
        refine CW.ret (ret1 Try.results9 (by simp only [upd_get, ev, Nat.reduceEqDiff, ↓reduceIte]; rfl) ?_)
        exact ⟨rfl, H.ext⟩
    · rw [findL_some hf] at H ⊢
      rw [free_leave hf h1 h2]
      dsimp only at H ⊢
      refine CW.region ?_
      refine r_move rfl ?_
      refine r_move rfl ?_
      refine LW.known (t := 109) (c := true) rfl (by first | rfl | (simp only [decide_eq_true_eq, decide_eq_false_iff_not, Bool.and_eq_true, Bool.or_eq_true, Bool.and_eq_false_iff, Bool.or_eq_false_iff, Bool.not_eq_true', Bool.not_eq_false', beq_iff_eq, bne_iff_ne]; omega) | simp_all) (fun hg17_2 => ?_)
      refine LW.want rfl rfl hg17_2 ?_
      refine r_fieldAddrO rfl Try.underlying53 rfl Try.sizeOf3 (by decide) (show _ = 1 from rfl) rfl ?_
      refine LW.want rfl rfl hg17_2 ?_
      refine r_load rfl Try.isAgg3 rfl (by first | exact SH.cellB H (by (repeat first | exact At.here | apply At.there); done) (by rfl) | assumption) ?_
      refine LW.want rfl rfl hg17_2 ?_
      refine r_move rfl ?_
      refine LW.want rfl rfl hg17_2 ?_
      refine r_eql rfl rfl rfl ?_
      refine LW.want rfl rfl hg17_2 ?_
      refine r_move rfl ?_
      refine LW.known (t := 114) (c := false) rfl (decide_eq_false h1) (fun hg17_7 => ?_)
      refine LW.want rfl rfl hg17_7 ?_
      refine r_fieldAddrO rfl Try.underlying53 rfl Try.sizeOf22 (by decide) (show _ = 3 from rfl) rfl ?_
      refine LW.want rfl rfl hg17_7 ?_
      refine r_load rfl Try.isAgg22 rfl (by first | exact SH.cellB H (by (repeat first | exact At.here | apply At.there); done) (by rfl) | assumption) ?_
      refine LW.want rfl rfl hg17_7 ?_
      refine r_move rfl ?_
      refine LW.want rfl rfl hg17_7 ?_
      refine r_call rfl Try.call19 (by simp only [List.map_cons, List.map_nil, List.map_toArray, List.toList_toArray, upd_get, ev, Nat.reduceEqDiff, ↓reduceIte] <;> rfl) (In_c _ _ (SH.rsO H (i := 4) rfl)) ?_
      rintro _ _ ⟨rfl, rfl⟩
      refine ⟨_, rfl, ?_⟩
      rw [decide_eq_true h2]
      refine LW.want rfl rfl hg17_2 ?_
      refine r_pickF rfl rfl hg17_7 ?_
      refine r_pickT rfl rfl hg17_2 ?_
      refine r_assign rfl ?_
      refine LW.nil ?_
      refine thenE_norm ?_
      refine cut (K := K20) [7, 9, 13, 16, 19, 22, 25, 28] (fun σ => ?_)
      simp only [setL, keepE, upd_get, ev, Nat.reduceEqDiff, ↓reduceIte]
      refine h20 _ _ ?_; clear h20; try clear K20
      refine CW.seq (fun K30 h30 => ?_)
      refine CW.seq (fun K31 h31 => ?_)
      refine CW.region ?_
      refine r_move rfl ?_
      refine r_eql rfl rfl rfl ?_
      refine r_move rfl ?_
      refine r_neqB rfl Try.underlying4 rfl rfl ?_
      refine r_move rfl ?_
      refine LW.known (t := 125) (c := false) rfl (by first | rfl | (simp only [decide_eq_true_eq, decide_eq_false_iff_not, Bool.and_eq_true, Bool.or_eq_true, Bool.and_eq_false_iff, Bool.or_eq_false_iff, Bool.not_eq_true', Bool.not_eq_false', beq_iff_eq, bne_iff_ne]; omega) | simp_all) (fun hg18_5 => ?_)
      refine LW.want rfl rfl hg18_5 ?_
      refine r_move rfl ?_
      refine LW.want rfl rfl hg18_5 ?_
      refine r_not rfl rfl ?_
      refine LW.want rfl rfl hg18_5 ?_
      refine r_move rfl ?_
      refine LW.known (t := 128) (c := false) rfl (by first | rfl | (simp only [decide_eq_true_eq, decide_eq_false_iff_not, Bool.and_eq_true, Bool.or_eq_true, Bool.and_eq_false_iff, Bool.or_eq_false_iff, Bool.not_eq_true', Bool.not_eq_false', beq_iff_eq, bne_iff_ne]; omega) | simp_all) (fun hg18_8 => ?_)
      refine LW.skip rfl (fun _ e => by cases e; decide) rfl hg18_8 ?_
      refine LW.skip rfl (fun _ e => by cases e; decide) rfl hg18_8 ?_
      refine LW.want rfl rfl hg18_5 ?_
      refine r_pickF rfl rfl hg18_8 ?_
      refine r_pickF rfl rfl hg18_5 ?_
      refine r_move rfl ?_
      refine LW.known (t := 133) (c := false) rfl (by first | rfl | (simp only [decide_eq_true_eq, decide_eq_false_iff_not, Bool.and_eq_true, Bool.or_eq_true, Bool.and_eq_false_iff, Bool.or_eq_false_iff, Bool.not_eq_true', Bool.not_eq_false', beq_iff_eq, bne_iff_ne]; omega) | simp_all) (fun hg18_13 => ?_)
      refine LW.want rfl rfl hg18_13 ?_
      refine r_move rfl ?_
      refine LW.want rfl rfl hg18_13 ?_
      refine r_neq rfl rfl rfl ?_
      refine r_pickF rfl rfl hg18_13 ?_
      refine r_move rfl ?_
      refine LW.known (t := 137) (c := false) rfl (by first | rfl | (simp only [decide_eq_true_eq, decide_eq_false_iff_not, Bool.and_eq_true, Bool.or_eq_true, Bool.and_eq_false_iff, Bool.or_eq_false_iff, Bool.not_eq_true', Bool.not_eq_false', beq_iff_eq, bne_iff_ne]; omega) | simp_all) (fun hg18_17 => ?_)
      refine LW.want rfl rfl hg18_17 ?_
      refine r_move rfl ?_
      refine LW.want rfl rfl hg18_17 ?_
      refine r_not rfl rfl ?_
      refine LW.want rfl rfl hg18_17 ?_
      refine r_move rfl ?_
      refine LW.known (t := 140) (c := false) rfl (by first | rfl | (simp only [decide_eq_true_eq, decide_eq_false_iff_not, Bool.and_eq_true, Bool.or_eq_true, Bool.and_eq_false_iff, Bool.or_eq_false_iff, Bool.not_eq_true', Bool.not_eq_false', beq_iff_eq, bne_iff_ne]; omega) | simp_all) (fun hg18_20 => ?_)
      refine LW.skip rfl (fun _ e => by cases e; decide) rfl hg18_20 ?_
      refine LW.skip rfl (fun _ e => by cases e; decide) rfl hg18_20 ?_
      refine LW.want rfl rfl hg18_17 ?_
      refine r_pickF rfl rfl hg18_20 ?_
      refine LW.want rfl rfl hg18_17 ?_
      refine r_move rfl ?_
      refine LW.known (t := 144) (c := false) rfl (by first | rfl | (simp only [decide_eq_true_eq, decide_eq_false_iff_not, Bool.and_eq_true, Bool.or_eq_true, Bool.and_eq_false_iff, Bool.or_eq_false_iff, Bool.not_eq_true', Bool.not_eq_false', beq_iff_eq, bne_iff_ne]; omega) | simp_all) (fun hg18_24 => ?_)
      refine LW.skip rfl (fun _ e => by cases e; decide) rfl hg18_24 ?_
      refine LW.skip rfl (fun _ e => by cases e; decide) rfl hg18_24 ?_
      refine LW.skip rfl (fun _ e => by cases e; decide) rfl hg18_24 ?_
      refine LW.skipU rfl (fun _ e => by cases e; decide) rfl ?_
      refine LW.skipU rfl (fun _ e => by cases e; decide) rfl ?_
      refine LW.skipU rfl (fun _ e => by cases e; decide) rfl ?_
      refine LW.skip rfl (fun _ e => by cases e; decide) rfl hg18_24 ?_
      refine LW.want rfl rfl hg18_17 ?_
      refine r_pickF rfl rfl hg18_24 ?_
      refine r_pickF rfl rfl hg18_17 ?_
      refine LW.nil ?_
      refine thenE_norm ?_
      refine cut (K := K31) [7, 9, 25, 153] (fun σ => ?_)
      simp only [setL, keepE, upd_get, ev, Nat.reduceEqDiff, ↓reduceIte]
      refine h31 _ _ ?_; clear h31; try clear K31
      refine CW.condF rfl (by first | rfl | (simp; done) | (simp; omega)) ?_
      refine CW.skip ?_
      refine thenE_norm (h30 _ _ ?_); clear h30; try clear K30
      refine CW.seq (fun K32 h32 => ?_)
      by_cases h4' : 4 ≤ ms.length
      · rw [take_full hom h4']
        dsimp only
        refine CW.region ?_
        refine r_move rfl ?_
        refine r_eql rfl rfl rfl ?_
        refine r_move rfl ?_
        first
          | refine r_lenV rfl Try.underlying48 (by simp only [upd_get, ev, Nat.reduceEqDiff, ↓reduceIte] <;> rfl) (by first | assumption | exact SH.rsR H (by (repeat first | exact At.here | apply At.there); done) | exact SH.rsO H (by (repeat first | exact At.here | apply At.there); done) | exact (Rs.nil : Rs Non _ _ _)) ?_
          | refine r_len rfl Try.underlying48 rfl ?_
        refine r_lss rfl rfl rfl ?_
        refine r_eqlB rfl Try.underlying4 rfl rfl ?_
        refine r_move rfl ?_
        refine LW.known (t := 160) (c := true) rfl (by first | (simp; done) | (simp; omega)) (fun hg20_7 => ?_)
        refine LW.want rfl rfl hg20_7 ?_
        refine r_move rfl ?_
        refine LW.want rfl rfl hg20_7 ?_
        refine r_eql rfl rfl rfl ?_
        refine LW.want rfl rfl hg20_7 ?_
        refine r_move rfl ?_
        refine LW.known (t := 163) (c := false) rfl (by first | rfl | (simp only [decide_eq_true_eq, decide_eq_false_iff_not, Bool.and_eq_true, Bool.or_eq_true, Bool.and_eq_false_iff, Bool.or_eq_false_iff, Bool.not_eq_true', Bool.not_eq_false', beq_iff_eq, bne_iff_ne]; omega) | simp_all) (fun hg20_10 => ?_)
        refine LW.want rfl rfl hg20_10 ?_
        refine r_move rfl ?_
        refine LW.want rfl rfl hg20_10 ?_
        refine r_eql rfl rfl rfl ?_
        refine LW.want rfl rfl hg20_7 ?_
        refine r_pickF rfl rfl hg20_10 ?_
        refine r_pickT rfl rfl hg20_7 ?_
        refine r_move rfl ?_
        refine LW.known (t := 168) (c := true) rfl (by first | rfl | (simp only [decide_eq_true_eq, decide_eq_false_iff_not, Bool.and_eq_true, Bool.or_eq_true, Bool.and_eq_false_iff, Bool.or_eq_false_iff, Bool.not_eq_true', Bool.not_eq_false', beq_iff_eq, bne_iff_ne]; omega) | simp_all) (fun hg20_15 => ?_)
        refine LW.want rfl rfl hg20_15 ?_
        refine r_move rfl ?_
        refine LW.want rfl rfl hg20_15 ?_
        refine r_move rfl ?_
        refine LW.want rfl rfl hg20_15 ?_
        refine r_call rfl Try.call35 (by simp only [List.map_cons, List.map_nil, List.map_toArray, List.toList_toArray, upd_get, ev, Nat.reduceEqDiff, ↓reduceIte] <;> rfl) (SameLocks_c _ (SH.rsR H (i := 0) rfl) (SH.rsO H (i := 2) rfl) (SH.propI H (i := 1) rfl) (SH.prop H (i := 3) rfl)) ?_
        rintro _ w20_17 ⟨rfl, X⟩
        refine ⟨_, rfl, ?_⟩
        replace H := SH.same H X
        clear X
        refine r_pickT rfl rfl hg20_15 ?_
        refine r_move rfl ?_
        refine LW.known (t := 173) (c := true) rfl (by simp) (fun hg20_20 => ?_)
        refine LW.want rfl rfl hg20_20 ?_
        refine r_call rfl Try.call31 (by simp only [List.map_cons, List.map_nil, List.map_toArray, List.toList_toArray, upd_get, ev, Nat.reduceEqDiff, ↓reduceIte] <;> rfl) (awake8_c _) ?_
        rintro _ w20_20 ⟨rfl, X⟩
        refine ⟨_, rfl, ?_⟩
        replace H := SH.same H X
        clear X
        refine r_pickT rfl rfl hg20_20 ?_
        refine r_assign rfl ?_
        refine LW.nil ?_
        refine thenE_norm ?_
        refine cut (K := K32) [6] (fun σ => ?_)
        simp only [setL, keepE, upd_get, ev, Nat.reduceEqDiff, ↓reduceIte]
        refine h32 _ _ ?_; clear h32; try clear K32
        refine CW.ret (ret1 Try.results9 (by simp only [upd_get, ev, Nat.reduceEqDiff, ↓reduceIte]; rfl) ?_)
        exact ⟨rfl, H.ext⟩
      · rw [take_new hom h4']
        dsimp only
        refine CW.region ?_
        refine r_move rfl ?_
        refine r_eql rfl rfl rfl ?_
        refine r_move rfl ?_
        first
          | refine r_lenV rfl Try.underlying48 (by simp only [upd_get, ev, Nat.reduceEqDiff, ↓reduceIte] <;> rfl) (by first | assumption | exact SH.rsR H (by (repeat first | exact At.here | apply At.there); done) | exact SH.rsO H (by (repeat first | exact At.here | apply At.there); done) | exact (Rs.nil : Rs Non _ _ _)) ?_
          | refine r_len rfl Try.underlying48 rfl ?_
        refine r_lss rfl rfl rfl ?_
        refine r_eqlB rfl Try.underlying4 rfl rfl ?_
        refine r_move rfl ?_
        refine LW.known (t := 160) (c := true) rfl (by first | (simp; done) | (simp; omega)) (fun hg20_7 => ?_)
        refine LW.want rfl rfl hg20_7 ?_
        refine r_move rfl ?_
        refine LW.want rfl rfl hg20_7 ?_
        refine r_eql rfl rfl rfl ?_
        refine LW.want rfl rfl hg20_7 ?_
        refine r_move rfl ?_
        refine LW.known (t := 163) (c := true) rfl (by first | rfl | (simp only [decide_eq_true_eq, decide_eq_false_iff_not, Bool.and_eq_true, Bool.or_eq_true, Bool.and_eq_false_iff, Bool.or_eq_false_iff, Bool.not_eq_true', Bool.not_eq_false', beq_iff_eq, bne_iff_ne]; omega) | simp_all) (fun hg20_10 => ?_)
        refine LW.skip rfl (fun _ e => by cases e; decide) rfl hg20_10 ?_
        refine LW.skip rfl (fun _ e => by cases e; decide) rfl hg20_10 ?_
        refine LW.want rfl rfl hg20_7 ?_
        refine r_pickT rfl rfl hg20_10 ?_
        refine r_pickT rfl rfl hg20_7 ?_
        refine r_move rfl ?_
        refine LW.known (t := 168) (c := true) rfl (by first | rfl | (simp only [decide_eq_true_eq, decide_eq_false_iff_not, Bool.and_eq_true, Bool.or_eq_true, Bool.and_eq_false_iff, Bool.or_eq_false_iff, Bool.not_eq_true', Bool.not_eq_false', beq_iff_eq, bne_iff_ne]; omega) | simp_all) (fun hg20_15 => ?_)
        refine LW.want rfl rfl hg20_15 ?_
        refine r_move rfl ?_
        refine LW.want rfl rfl hg20_15 ?_
        refine r_move rfl ?_
        refine LW.want rfl rfl hg20_15 ?_
        refine r_call rfl Try.call35 (by simp only [List.map_cons, List.map_nil, List.map_toArray, List.toList_toArray, upd_get, ev, Nat.reduceEqDiff, ↓reduceIte] <;> rfl) (SameLocks_c _ (SH.rsR H (i := 0) rfl) (SH.rsO H (i := 2) rfl) (SH.propI H (i := 1) rfl) (SH.prop H (i := 3) rfl)) ?_
        rintro _ w20_17 ⟨rfl, X⟩
        refine ⟨_, rfl, ?_⟩
        replace H := SH.same H X
        clear X
        refine r_pickT rfl rfl hg20_15 ?_
        refine r_move rfl ?_
        refine LW.known (t := 173) (c := true) rfl (by simp) (fun hg20_20 => ?_)
        refine LW.want rfl rfl hg20_20 ?_
        refine r_call rfl Try.call31 (by simp only [List.map_cons, List.map_nil, List.map_toArray, List.toList_toArray, upd_get, ev, Nat.reduceEqDiff, ↓reduceIte] <;> rfl) (awake8_c _) ?_
        rintro _ w20_20 ⟨rfl, X⟩
        refine ⟨_, rfl, ?_⟩
        replace H := SH.same H X
        clear X
        refine r_pickT rfl rfl hg20_20 ?_
        refine r_assign rfl ?_
        refine LW.nil ?_
        refine thenE_norm ?_
        refine cut (K := K32) [6] (fun σ => ?_)
        simp only [setL, keepE, upd_get, ev, Nat.reduceEqDiff, ↓reduceIte]
        refine h32 _ _ ?_; clear h32; try clear K32
        refine CW.ret (ret1 Try.results9 (by simp only [upd_get, ev, Nat.reduceEqDiff, ↓reduceIte]; rfl) ?_)
        exact ⟨rfl, H.ext⟩
    · rw [findL_some hf] at H ⊢
      rw [free_no hf h1 h2]
      dsimp only at H ⊢
      refine CW.region ?_
      refine r_move rfl ?_
      refine r_move rfl ?_
      refine LW.known (t := 109) (c := true) rfl (by first | rfl | (simp only [decide_eq_true_eq, decide_eq_false_iff_not, Bool.and_eq_true, Bool.or_eq_true, Bool.and_eq_false_iff, Bool.or_eq_false_iff, Bool.not_eq_true', Bool.not_eq_false', beq_iff_eq, bne_iff_ne]; omega) | simp_all) (fun hg17_2 => ?_)
      refine LW.want rfl rfl hg17_2 ?_
      refine r_fieldAddrO rfl Try.underlying53 rfl Try.sizeOf3 (by decide) (show _ = 1 from rfl) rfl ?_
      refine LW.want rfl rfl hg17_2 ?_
      refine r_load rfl Try.isAgg3 rfl (by first | exact SH.cellB H (by (repeat first | exact At.here | apply At.there); done) (by rfl) | assumption) ?_
      refine LW.want rfl rfl hg17_2 ?_
      refine r_move rfl ?_
      refine LW.want rfl rfl hg17_2 ?_
      refine r_eql rfl rfl rfl ?_
      refine LW.want rfl rfl hg17_2 ?_
      refine r_move rfl ?_
      refine LW.known (t := 114) (c := false) rfl (decide_eq_false h1) (fun hg17_7 => ?_)
      refine LW.want rfl rfl hg17_7 ?_
      refine r_fieldAddrO rfl Try.underlying53 rfl Try.sizeOf22 (by decide) (show _ = 3 from rfl) rfl ?_
      refine LW.want rfl rfl hg17_7 ?_
      refine r_load rfl Try.isAgg22 rfl (by first | exact SH.cellB H (by (repeat first | exact At.here | apply At.there); done) (by rfl) | assumption) ?_
      refine LW.want rfl rfl hg17_7 ?_
      refine r_move rfl ?_
      refine LW.want rfl rfl hg17_7 ?_
      refine r_call rfl Try.call19 (by simp only [List.map_cons, List.map_nil, List.map_toArray, List.toList_toArray, upd_get, ev, Nat.reduceEqDiff, ↓reduceIte] <;> rfl) (In_c _ _ (SH.rsO H (i := 4) rfl)) ?_
      rintro _ _ ⟨rfl, rfl⟩
      refine ⟨_, rfl, ?_⟩
      rw [decide_eq_false h2]
      refine LW.want rfl rfl hg17_2 ?_
      refine r_pickF rfl rfl hg17_7 ?_
      refine r_pickT rfl rfl hg17_2 ?_
      refine r_assign rfl ?_
      refine LW.nil ?_
      refine thenE_norm ?_
      refine cut (K := K20) [7, 9, 13, 16, 19, 22, 25, 28] (fun σ => ?_)
      simp only [setL, keepE, upd_get, ev, Nat.reduceEqDiff, ↓reduceIte]
      refine h20 _ _ ?_; clear h20; try clear K20
      refine CW.seq (fun K33 h33 => ?_)
      refine CW.seq (fun K34 h34 => ?_)
      refine CW.region ?_
      refine r_move rfl ?_
      refine r_eql rfl rfl rfl ?_
      refine r_move rfl ?_
      refine r_neqB rfl Try.underlying4 rfl rfl ?_
      refine r_move rfl ?_
      refine LW.known (t := 125) (c := false) rfl (by first | rfl | (simp only [decide_eq_true_eq, decide_eq_false_iff_not, Bool.and_eq_true, Bool.or_eq_true, Bool.and_eq_false_iff, Bool.or_eq_false_iff, Bool.not_eq_true', Bool.not_eq_false', beq_iff_eq, bne_iff_ne]; omega) | simp_all) (fun hg18_5 => ?_)
      refine LW.want rfl rfl hg18_5 ?_
      refine r_move rfl ?_
      refine LW.want rfl rfl hg18_5 ?_
      refine r_not rfl rfl ?_
      refine LW.want rfl rfl hg18_5 ?_
      refine r_move rfl ?_
      refine LW.known (t := 128) (c := true) rfl (by first | rfl | (simp only [decide_eq_true_eq, decide_eq_false_iff_not, Bool.and_eq_true, Bool.or_eq_true, Bool.and_eq_false_iff, Bool.or_eq_false_iff, Bool.not_eq_true', Bool.not_eq_false', beq_iff_eq, bne_iff_ne]; omega) | simp_all) (fun hg18_8 => ?_)
      refine LW.want rfl rfl hg18_8 ?_
      refine r_move rfl ?_
      refine LW.want rfl rfl hg18_8 ?_
      refine r_neq rfl rfl rfl ?_
      refine LW.want rfl rfl hg18_5 ?_
      refine r_pickT rfl rfl hg18_8 ?_
      refine r_pickF rfl rfl hg18_5 ?_
      refine r_move rfl ?_
      refine LW.known (t := 133) (c := false) rfl (by first | rfl | (simp only [decide_eq_true_eq, decide_eq_false_iff_not, Bool.and_eq_true, Bool.or_eq_true, Bool.and_eq_false_iff, Bool.or_eq_false_iff, Bool.not_eq_true', Bool.not_eq_false', beq_iff_eq, bne_iff_ne]; omega) | simp_all) (fun hg18_13 => ?_)
      refine LW.want rfl rfl hg18_13 ?_
      refine r_move rfl ?_
      refine LW.want rfl rfl hg18_13 ?_
      refine r_neq rfl rfl rfl ?_
      refine r_pickF rfl rfl hg18_13 ?_
      refine r_move rfl ?_
      refine LW.known (t := 137) (c := false) rfl (by first | rfl | (simp only [decide_eq_true_eq, decide_eq_false_iff_not, Bool.and_eq_true, Bool.or_eq_true, Bool.and_eq_false_iff, Bool.or_eq_false_iff, Bool.not_eq_true', Bool.not_eq_false', beq_iff_eq, bne_iff_ne]; omega) | simp_all) (fun hg18_17 => ?_)
      refine LW.want rfl rfl hg18_17 ?_
      refine r_move rfl ?_
      refine LW.want rfl rfl hg18_17 ?_
      refine r_not rfl rfl ?_
      refine LW.want rfl rfl hg18_17 ?_
      refine r_move rfl ?_
      refine LW.known (t := 140) (c := false) rfl (by first | rfl | (simp only [decide_eq_true_eq, decide_eq_false_iff_not, Bool.and_eq_true, Bool.or_eq_true, Bool.and_eq_false_iff, Bool.or_eq_false_iff, Bool.not_eq_true', Bool.not_eq_false', beq_iff_eq, bne_iff_ne]; omega) | simp_all) (fun hg18_20 => ?_)
      refine LW.skip rfl (fun _ e => by cases e; decide) rfl hg18_20 ?_
      refine LW.skip rfl (fun _ e => by cases e; decide) rfl hg18_20 ?_
      refine LW.want rfl rfl hg18_17 ?_
      refine r_pickF rfl rfl hg18_20 ?_
      refine LW.want rfl rfl hg18_17 ?_
      refine r_move rfl ?_
      refine LW.known (t := 144) (c := false) rfl (by first | rfl | (simp only [decide_eq_true_eq, decide_eq_false_iff_not, Bool.and_eq_true, Bool.or_eq_true, Bool.and_eq_false_iff, Bool.or_eq_false_iff, Bool.not_eq_true', Bool.not_eq_false', beq_iff_eq, bne_iff_ne]; omega) | simp_all) (fun hg18_24 => ?_)
      refine LW.skip rfl (fun _ e => by cases e; decide) rfl hg18_24 ?_
      refine LW.skip rfl (fun _ e => by cases e; decide) rfl hg18_24 ?_
      refine LW.skip rfl (fun _ e => by cases e; decide) rfl hg18_24 ?_
      refine LW.skipU rfl (fun _ e => by cases e; decide) rfl ?_
      refine LW.skipU rfl (fun _ e => by cases e; decide) rfl ?_
      refine LW.skipU rfl (fun _ e => by cases e; decide) rfl ?_
      refine LW.skip rfl (fun _ e => by cases e; decide) rfl hg18_24 ?_
      refine LW.want rfl rfl hg18_17 ?_
      refine r_pickF rfl rfl hg18_24 ?_
      refine r_pickF rfl rfl hg18_17 ?_
      refine LW.nil ?_
      refine thenE_norm ?_
      refine cut (K := K34) [7, 9, 25, 153] (fun σ => ?_)
      simp only [setL, keepE, upd_get, ev, Nat.reduceEqDiff, ↓reduceIte]
      refine h34 _ _ ?_; clear h34; try clear K34
      refine CW.condF rfl (by first | rfl | (simp; done) | (simp; omega)) ?_
      refine CW.skip ?_
      refine thenE_norm (h33 _ _ ?_); clear h33; try clear K33
      refine CW.seq (fun K35 h35 => ?_)
      by_cases h4' : 4 ≤ ms.length
      · rw [take_full hom h4']
        dsimp only
        refine CW.region ?_
        refine r_move rfl ?_
        refine r_eql rfl rfl rfl ?_
        refine r_move rfl ?_
        first
          | refine r_lenV rfl Try.underlying48 (by simp only [upd_get, ev, Nat.reduceEqDiff, ↓reduceIte] <;> rfl) (by first | assumption | exact SH.rsR H (by (repeat first | exact At.here | apply At.there); done) | exact SH.rsO H (by (repeat first | exact At.here | apply At.there); done) | exact (Rs.nil : Rs Non _ _ _)) ?_
          | refine r_len rfl Try.underlying48 rfl ?_
        refine r_lss rfl rfl rfl ?_
        refine r_eqlB rfl Try.underlying4 rfl rfl ?_
        refine r_move rfl ?_
        refine LW.known (t := 160) (c := true) rfl (by first | (simp; done) | (simp; omega)) (fun hg20_7 => ?_)
        refine LW.want rfl rfl hg20_7 ?_
        refine r_move rfl ?_
        refine LW.want rfl rfl hg20_7 ?_
        refine r_eql rfl rfl rfl ?_
        refine LW.want rfl rfl hg20_7 ?_
        refine r_move rfl ?_
        refine LW.known (t := 163) (c := false) rfl (by first | rfl | (simp only [decide_eq_true_eq, decide_eq_false_iff_not, Bool.and_eq_true, Bool.or_eq_true, Bool.and_eq_false_iff, Bool.or_eq_false_iff, Bool.not_eq_true', Bool.not_eq_false', beq_iff_eq, bne_iff_ne]; omega) | simp_all) (fun hg20_10 => ?_)
        refine LW.want rfl rfl hg20_10 ?_
        refine r_move rfl ?_
        refine LW.want rfl rfl hg20_10 ?_
        refine r_eql rfl rfl rfl ?_
        refine LW.want rfl rfl hg20_7 ?_
        refine r_pickF rfl rfl hg20_10 ?_
        refine r_pickT rfl rfl hg20_7 ?_
        refine r_move rfl ?_
        refine LW.known (t := 168) (c := true) rfl (by first | rfl | (simp only [decide_eq_true_eq, decide_eq_false_iff_not, Bool.and_eq_true, Bool.or_eq_true, Bool.and_eq_false_iff, Bool.or_eq_false_iff, Bool.not_eq_true', Bool.not_eq_false', beq_iff_eq, bne_iff_ne]; omega) | simp_all) (fun hg20_15 => ?_)
        refine LW.want rfl rfl hg20_15 ?_
        refine r_move rfl ?_
        refine LW.want rfl rfl hg20_15 ?_
        refine r_move rfl ?_
        refine LW.want rfl rfl hg20_15 ?_
        refine r_call rfl Try.call35 (by simp only [List.map_cons, List.map_nil, List.map_toArray, List.toList_toArray, upd_get, ev, Nat.reduceEqDiff, ↓reduceIte] <;> rfl) (SameLocks_c _ (SH.rsR H (i := 0) rfl) (SH.rsO H (i := 2) rfl) (SH.propI H (i := 1) rfl) (SH.prop H (i := 3) rfl)) ?_
        rintro _ w20_17 ⟨rfl, X⟩
        refine ⟨_, rfl, ?_⟩
        replace H := SH.same H X
        clear X
        refine r_pickT rfl rfl hg20_15 ?_
        refine r_move rfl ?_
        refine LW.known (t := 173) (c := true) rfl (by simp) (fun hg20_20 => ?_)
        refine LW.want rfl rfl hg20_20 ?_
        refine r_call rfl Try.call31 (by simp only [List.map_cons, List.map_nil, List.map_toArray, List.toList_toArray, upd_get, ev, Nat.reduceEqDiff, ↓reduceIte] <;> rfl) (awake8_c _) ?_
        rintro _ w20_20 ⟨rfl, X⟩
        refine ⟨_, rfl, ?_⟩
        replace H := SH.same H X
        clear X
        refine r_pickT rfl rfl hg20_20 ?_
        refine r_assign rfl ?_
        refine LW.nil ?_
        refine thenE_norm ?_
        refine cut (K := K35) [6] (fun σ => ?_)
        simp only [setL, keepE, upd_get, ev, Nat.reduceEqDiff, ↓reduceIte]
        refine h35 _ _ ?_; clear h35; try clear K35
        refine CW.ret (ret1 Try.results9 (by simp only [upd_get, ev, Nat.reduceEqDiff, ↓reduceIte]; rfl) ?_)
        exact ⟨rfl, H.ext⟩
      · rw [take_new hom h4']
        dsimp only
        refine CW.region ?_
        refine r_move rfl ?_
        refine r_eql rfl rfl rfl ?_
        refine r_move rfl ?_
        first
          | refine r_lenV rfl Try.underlying48 (by simp only [upd_get, ev, Nat.reduceEqDiff, ↓reduceIte] <;> rfl) (by first | assumption | exact SH.rsR H (by (repeat first | exact At.here | apply At.there); done) | exact SH.rsO H (by (repeat first | exact At.here | apply At.there); done) | exact (Rs.nil : Rs Non _ _ _)) ?_
          | refine r_len rfl Try.underlying48 rfl ?_
        refine r_lss rfl rfl rfl ?_
        refine r_eqlB rfl Try.underlying4 rfl rfl ?_
        refine r_move rfl ?_
        refine LW.known (t := 160) (c := true) rfl (by first | (simp; done) | (simp; omega)) (fun hg20_7 => ?_)
        refine LW.want rfl rfl hg20_7 ?_
        refine r_move rfl ?_
        refine LW.want rfl rfl hg20_7 ?_
        refine r_eql rfl rfl rfl ?_
        refine LW.want rfl rfl hg20_7 ?_
        refine r_move rfl ?_
        refine LW.known (t := 163) (c := true) rfl (by first | rfl | (simp only [decide_eq_true_eq, decide_eq_false_iff_not, Bool.and_eq_true, Bool.or_eq_true, Bool.and_eq_false_iff, Bool.or_eq_false_iff, Bool.not_eq_true', Bool.not_eq_false', beq_iff_eq, bne_iff_ne]; omega) | simp_all) (fun hg20_10 => ?_)
        refine LW.skip rfl (fun _ e => by cases e; decide) rfl hg20_10 ?_
        refine LW.skip rfl (fun _ e => by cases e; decide) rfl hg20_10 ?_
        refine LW.want rfl rfl hg20_7 ?_
        refine r_pickT rfl rfl hg20_10 ?_
        refine r_pickT rfl rfl hg20_7 ?_
        refine r_move rfl ?_
        refine LW.known (t := 168) (c := true) rfl (by first | rfl | (simp only [decide_eq_true_eq, decide_eq_false_iff_not, Bool.and_eq_true, Bool.or_eq_true, Bool.and_eq_false_iff, Bool.or_eq_false_iff, Bool.not_eq_true', Bool.not_eq_false', beq_iff_eq, bne_iff_ne]; omega) | simp_all) (fun hg20_15 => ?_)
        refine LW.want rfl rfl hg20_15 ?_
        refine r_move rfl ?_
        refine LW.want rfl rfl hg20_15 ?_
        refine r_move rfl ?_
        refine LW.want rfl rfl hg20_15 ?_
        refine r_call rfl Try.call35 (by simp only [List.map_cons, List.map_nil, List.map_toArray, List.toList_toArray, upd_get, ev, Nat.reduceEqDiff, ↓reduceIte] <;> rfl) (SameLocks_c _ (SH.rsR H (i := 0) rfl) (SH.rsO H (i := 2) rfl) (SH.propI H (i := 1) rfl) (SH.prop H (i := 3) rfl)) ?_
        rintro _ w20_17 ⟨rfl, X⟩
        refine ⟨_, rfl, ?_⟩
        replace H := SH.same H X
        clear X
        refine r_pickT rfl rfl hg20_15 ?_
        refine r_move rfl ?_
        refine LW.known (t := 173) (c := true) rfl (by simp) (fun hg20_20 => ?_)
        refine LW.want rfl rfl hg20_20 ?_
        refine r_call rfl Try.call31 (by simp only [List.map_cons, List.map_nil, List.map_toArray, List.toList_toArray, upd_get, ev, Nat.reduceEqDiff, ↓reduceIte] <;> rfl) (awake8_c _) ?_
        rintro _ w20_20 ⟨rfl, X⟩
        refine ⟨_, rfl, ?_⟩
        replace H := SH.same H X
        clear X
        refine r_pickT rfl rfl hg20_20 ?_
        refine r_assign rfl ?_
        refine LW.nil ?_
        refine thenE_norm ?_
        refine cut (K := K35) [6] (fun σ => ?_)
        simp only [setL, keepE, upd_get, ev, Nat.reduceEqDiff, ↓reduceIte]
        refine h35 _ _ ?_; clear h35; try clear K35
        refine CW.ret (ret1 Try.results9 (by simp only [upd_get, ev, Nat.reduceEqDiff, ↓reduceIte]; rfl) ?_)
        exact ⟨rfl, H.ext⟩
end Go.Proofs.Ytaggdlbjgjagbaa
