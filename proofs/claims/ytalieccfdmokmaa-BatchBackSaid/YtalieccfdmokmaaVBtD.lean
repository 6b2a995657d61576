/-
  The walks of layer 12's functions, the fourth part: what bytes are read as; the whole of the first statement.
-/
import Derived.Test.YtalieccfdmokmaaVBtC
namespace Go.Proofs.Ytalieccfdmokmaa
set_option linter.unusedSimpArgs false
set_option linter.unusedVariables false
set_option maxRecDepth 20000
open Go.V Go.RowKit Go.ChangeShapes Go.WideShapes

/-- So many numbers, read behind others. -/
def numsR : Nat → List Int → List UInt8 → Int → List Int × Int × Int
  | 0, l => fun _ a => (l, a, 0)
  | n + 1, l => bindR numM [] fun x => numsR n (l ++ [x])
theorem nums_s (n : Nat) (l : List Int) (xs : List UInt8) (a : Int) : numsR (n + 1) l xs a = bindR numM [] (fun x => numsR n (l ++ [x])) xs a := rfl
theorem rd_nums : ∀ (n : Nat) (l : List Int), Rd (numsR n l)
  | 0, l => rd_pure l
  | n + 1, l => rd_bind rd_num fun x => rd_nums n _
theorem nums_len : ∀ (n : Nat) (l : List Int) (xs : List UInt8) (a : Int), (numsR n l xs a).2.2 = 0 → (numsR n l xs a).1.length = l.length + n
  | 0, l, xs, a, h => rfl
  | n + 1, l, xs, a, h => by
    rw [nums_s] at h ⊢
    by_cases q : (numM xs a).2.2 = 0
    · rw [bindR, if_pos q] at h ⊢
      have := nums_len n _ _ _ h
      rw [List.length_append, List.length_singleton] at this
      omega
    · rw [bindR, if_neg q] at h
      exact absurd h q
theorem four_of {l : List Int} (h : l.length = 4) : ∃ a b c d, l = [a, b, c, d] := by
  match l, h with
  | [a, b, c, d], _ => exact ⟨a, b, c, d, rfl⟩
/-- So many requests, read behind others. -/
def reqsR : Nat → List Rq → List UInt8 → Int → List Rq × Int × Int
  | 0, l => fun _ a => (l, a, 0)
  | n + 1, l => bindR getRq [] fun x => reqsR n (l ++ [x])
theorem reqs_s (n : Nat) (l : List Rq) (xs : List UInt8) (a : Int) : reqsR (n + 1) l xs a = bindR getRq [] (fun x => reqsR n (l ++ [x])) xs a := rfl
def ZB : Bool × Int × Tp × Int × List Rq := (false, 0, ⟨0, 0⟩, 0, [])
/-- A batch that is read. -/
def getBat : List UInt8 → Int → (Bool × Int × Tp × Int × List Rq) × Int × Int :=
  bindR byteM ZB fun k => if 1 < k then failR ZB 4 else if k = 1 then (fun _ a => ((true, 0, ⟨0, 0⟩, 0, []), a, 0)) else
    bindR (numsR 4 []) ZB fun l => bindR byteM ZB fun n => if 3 < n then failR ZB 4 else
      bindR (reqsR n.toNat []) ZB fun rs => chkR (mayBat false (l.getD 0 0) ⟨l.getD 1 0, l.getD 2 0⟩ (l.getD 3 0) rs) (false, l.getD 0 0, ⟨l.getD 1 0, l.getD 2 0⟩, l.getD 3 0, rs) ZB
theorem bat_byte (xs : List UInt8) (a : Int) : 0 ≤ (byteM xs a).1 ∧ (byteM xs a).1 < 256 := by
  unfold byteM
  split
  · have := UInt8.toNat_lt (xs.getD a.toNat 0); simp only []; omega
  · simp
theorem getRq_small (xs : List UInt8) (a : Int) : (getRq xs a).1.cmd.name.size ≤ 255 := by
  have h : (getReqM xs a).1.2.2.2.2.length ≤ 255 := by
    have hl := getM_len xs (numM xs (byteM xs a).2.1).2.1
    unfold getReqM
    split
    · simp
    · split
      · simp
      · split
        · simp
        · split
          · exact hl
          · simp
  show ((getReqM xs a).1.2.2.2.2.toArray).size ≤ 255
  rw [List.size_toArray]; exact h
def cellsN (l : List Int) : List Value := .bool false :: ((l ++ List.replicate (4 - l.length) 0).map (Value.int .i64) ++ [.slice none 0 0])
theorem cellsN_set : ∀ (l : List Int) (v : Int), l.length < 4 → (cellsN l).set (1 + l.length) (.int .i64 v) = cellsN (l ++ [v])
  | [], _, _ => rfl
  | [_], _, _ => rfl
  | [_, _], _, _ => rfl
  | [_, _, _], _, _ => rfl
  | _ :: _ :: _ :: _ :: _, _, h => by simp only [List.length_cons] at h; omega
theorem cellsN_len (l : List Int) (h : l.length ≤ 4) : (cellsN l).length = 6 := by
  simp only [cellsN, List.length_cons, List.length_append, List.length_map, List.length_replicate, List.length_nil]; omega
theorem nil_small : smallQ [] := fun g h => by cases h
set_option maxHeartbeats 16000000 in
theorem GetBat_c {F : Nat → Prop} {v : Value} {xs : List UInt8} (at_ : Int) (w : World) (hv : Rs F w v xs) :
    Calls Try.prog 43 #[v, .int .i64 at_] w fun e w' => ∃ v' g, e = .returned (.tuple #[agg (⟨(getBat xs at_).1.1, (getBat xs at_).1.2.1, ⟨(getBat xs at_).1.2.2.1.view, (getBat xs at_).1.2.2.1.slot⟩, (getBat xs at_).1.2.2.2.1, v'⟩ : Bat), .int .i64 (getBat xs at_).2.1, .int .i64 (getBat xs at_).2.2]) ∧ smallQ (getBat xs at_).1.2.2.2.2 ∧ SH Non Non w w' [.O 32 v' (getBat xs at_).1.2.2.2.2 g] := by
  have H := (SH.start w).arg hv
  refine calls_of_CW Try.func43 rfl Try.ntmps43 (Nat.le_of_ble_eq_true rfl) ?_
  simp only [argE, argFrom, Nat.reduceAdd]
  refine CW.seq (fun K1 h1 => ?_)
  refine CW.region ?_
  refine s_alloc (cs := [.bool false, .int .i64 0, .int .i64 0, .int .i64 0, .int .i64 0, .slice none 0 0]) H rfl Try.zeroValue27 rfl ?_
  clear H
  intro b0_0 w0_0 H
  try dsimp only [replC, List.cons_append, List.nil_append, List.append_nil, agg, cellsL, Value.cells, List.toList_toArray, List.set_cons_zero, List.set_cons_succ, spliceL, List.take_succ_cons, List.take_zero, List.drop_succ_cons, List.drop_zero, List.length_cons, List.length_nil, Nat.reduceAdd, Row.cells, Cm.L, Rq.L, Tp.L, Bat.L] at H
  refine r_assign rfl ?_
  refine r_assign rfl ?_
  refine LW.nil ?_
  refine thenE_norm (h1 _ _ ?_); clear h1; try clear K1
  refine CW.seq (fun K2 h2 => ?_)
  refine CW.region ?_
  refine r_move rfl ?_
  refine r_move rfl ?_
  refine r_call rfl Try.call84 (by simp only [List.map_cons, List.map_nil, List.map_toArray, List.toList_toArray, upd_get, ev, Nat.reduceEqDiff, ↓reduceIte] <;> rfl) (Byte_c _ _ (Rs.bs (by first | assumption | exact SH.rsR H (by (repeat first | exact At.here | apply At.there); done) | exact SH.rsO H (by (repeat first | exact At.here | apply At.there); done) | exact (Rs.nil : Rs Non _ _ _)))) ?_
  rintro _ w1_2 ⟨rfl, X⟩
  refine ⟨_, rfl, ?_⟩
  replace H := SH.same H X
  clear X
  refine r_move rfl ?_
  refine r_extract rfl (by simp only [upd_get, ev, Nat.reduceEqDiff, ↓reduceIte] <;> rfl) (by simp only [List.getElem?_toArray, List.getElem?_cons_zero, List.getElem?_cons_succ] <;> rfl) ?_
  refine r_extract rfl (by simp only [upd_get, ev, Nat.reduceEqDiff, ↓reduceIte] <;> rfl) (by simp only [List.getElem?_toArray, List.getElem?_cons_zero, List.getElem?_cons_succ] <;> rfl) ?_
  refine r_extract rfl (by simp only [upd_get, ev, Nat.reduceEqDiff, ↓reduceIte] <;> rfl) (by simp only [List.getElem?_toArray, List.getElem?_cons_zero, List.getElem?_cons_succ] <;> rfl) ?_
  refine r_assign rfl ?_
  refine r_assign rfl ?_
  refine r_assign rfl ?_
  refine LW.nil ?_
  refine thenE_norm ?_
  refine cut (K := K2) [0, 1, 4, 7, 8] (fun σ => ?_)
  simp only [setL, keepE, upd_get, ev, Nat.reduceEqDiff, ↓reduceIte]
  refine h2 _ _ ?_; clear h2; try clear K2
  refine CW.seq (fun K3 h3 => ?_)
  refine CW.block ?_
  refine CW.seq (fun K4 h4 => ?_)
  refine CW.region ?_
  refine r_move rfl ?_
  refine r_neq rfl rfl rfl ?_
  refine r_assign rfl ?_
  refine LW.nil ?_
  refine thenE_norm (h4 _ _ ?_); clear h4; try clear K4
  refine CW.cond rfl (fun hc1 => ?_) (fun hc1 => ?_)
  · try simp only [decide_eq_true_eq, decide_eq_false_iff_not, Bool.and_eq_true, Bool.or_eq_true, Bool.and_eq_false_iff, Bool.or_eq_false_iff, Bool.not_eq_true', Bool.not_eq_false', beq_iff_eq, bne_iff_ne, ne_eq, Decidable.not_not] at hc1
    refine CW.seq (fun K5 h5 => ?_)
    refine CW.region ?_
    refine r_buildQ rfl Try.underlying27 Try.zeroValue27 rfl (pl := [(0, 1), (1, 1), (2, 2), (4, 1), (5, 1)]) (by intro w; simp [go_sem]) (qs := []) (cs := [.bool false, .int .i64 0, .int .i64 0, .int .i64 0, .int .i64 0, .slice none 0 0]) trivial rfl ?_
    refine r_move rfl ?_
    refine s_storeA H Try.sizeOf27 rfl (by simp only [upd_get, ev, Nat.reduceEqDiff, ↓reduceIte] <;> rfl) (by simp only [cellsL, agg, List.toList_toArray, Row.cells, Cm.L, Rq.L, Tp.L, Bat.L] <;> rfl) (by rfl) (by first | rfl | assumption | exact Rs.oneC (by first | assumption | exact SH.rsR H (by (repeat first | exact At.here | apply At.there); done) | exact SH.rsO H (by (repeat first | exact At.here | apply At.there); done) | exact (Rs.nil : Rs Non _ _ _)) | (simp only [List.all_cons, List.all_nil, Bool.and_true, Bool.and_eq_true, Row.cells, Cm.L, Rq.L, Tp.L, Bat.L]; (repeat' constructor) <;> first | rfl | assumption | exact Rs.oneC (by first | assumption | exact SH.rsR H (by (repeat first | exact At.here | apply At.there); done) | exact SH.rsO H (by (repeat first | exact At.here | apply At.there); done) | exact (Rs.nil : Rs Non _ _ _)))) (by (repeat first | exact At.here | apply At.there); done) (by first | (simp; done) | decide | (show _ ≤ _; decide)) ?_
    clear H
    intro w3_2 H
    try dsimp only [replC, List.cons_append, List.nil_append, List.append_nil, agg, cellsL, Value.cells, List.toList_toArray, List.set_cons_zero, List.set_cons_succ, spliceL, List.take_succ_cons, List.take_zero, List.drop_succ_cons, List.drop_zero, List.length_cons, List.length_nil, Nat.reduceAdd, Row.cells, Cm.L, Rq.L, Tp.L, Bat.L] at H
    refine r_assign rfl ?_
    refine r_assign rfl ?_
    refine LW.nil ?_
    refine thenE_norm ?_
    refine cut (K := K5) [4, 5, 6] (fun σ => ?_)
    simp only [setL, keepE, upd_get, ev, Nat.reduceEqDiff, ↓reduceIte]
    refine h5 _ _ ?_; clear h5; try clear K5
    refine CW.ret (blockE_ret (thenE_ret (retC3 Try.results43 (by simp only [upd_get, ev, Nat.reduceEqDiff, ↓reduceIte] <;> rfl) (by simp only [upd_get, ev, Nat.reduceEqDiff, ↓reduceIte] <;> rfl) (by simp only [upd_get, ev, Nat.reduceEqDiff, ↓reduceIte] <;> rfl) Try.isAgg27 Try.sizeOf27 (by exact SH.cells H (by (repeat first | exact At.here | apply At.there); done)) (by rfl) ?_)))
    rw [getBat, bindR, if_neg hc1]
    exact ⟨_, none, rfl, nil_small, SH.give (H.addO (α := Rq) 32) (by repeat first | exact List.Sublist.refl _ | exact List.nil_sublist _ | apply List.Sublist.cons_cons | apply List.Sublist.cons) ⟨trivial, trivial⟩⟩
  · try simp only [decide_eq_true_eq, decide_eq_false_iff_not, Bool.and_eq_true, Bool.or_eq_true, Bool.and_eq_false_iff, Bool.or_eq_false_iff, Bool.not_eq_true', Bool.not_eq_false', beq_iff_eq, bne_iff_ne, ne_eq, Decidable.not_not] at hc1
    refine CW.seq (fun K6 h6 => ?_)
    refine CW.region ?_
    refine r_move rfl ?_
    refine r_gtr rfl rfl rfl ?_
    refine r_assign rfl ?_
    refine LW.nil ?_
    refine thenE_norm (h6 _ _ ?_); clear h6; try clear K6
    refine CW.cond rfl (fun hc2 => ?_) (fun hc2 => ?_)
    · try simp only [decide_eq_true_eq, decide_eq_false_iff_not, Bool.and_eq_true, Bool.or_eq_true, Bool.and_eq_false_iff, Bool.or_eq_false_iff, Bool.not_eq_true', Bool.not_eq_false', beq_iff_eq, bne_iff_ne, ne_eq, Decidable.not_not] at hc2
      refine CW.seq (fun K7 h7 => ?_)
      refine CW.region ?_
      refine r_buildQ rfl Try.underlying27 Try.zeroValue27 rfl (pl := [(0, 1), (1, 1), (2, 2), (4, 1), (5, 1)]) (by intro w; simp [go_sem]) (qs := []) (cs := [.bool false, .int .i64 0, .int .i64 0, .int .i64 0, .int .i64 0, .slice none 0 0]) trivial rfl ?_
      refine s_storeA H Try.sizeOf27 rfl (by simp only [upd_get, ev, Nat.reduceEqDiff, ↓reduceIte] <;> rfl) (by simp only [cellsL, agg, List.toList_toArray, Row.cells, Cm.L, Rq.L, Tp.L, Bat.L] <;> rfl) (by rfl) (by first | rfl | assumption | exact Rs.oneC (by first | assumption | exact SH.rsR H (by (repeat first | exact At.here | apply At.there); done) | exact SH.rsO H (by (repeat first | exact At.here | apply At.there); done) | exact (Rs.nil : Rs Non _ _ _)) | (simp only [List.all_cons, List.all_nil, Bool.and_true, Bool.and_eq_true, Row.cells, Cm.L, Rq.L, Tp.L, Bat.L]; (repeat' constructor) <;> first | rfl | assumption | exact Rs.oneC (by first | assumption | exact SH.rsR H (by (repeat first | exact At.here | apply At.there); done) | exact SH.rsO H (by (repeat first | exact At.here | apply At.there); done) | exact (Rs.nil : Rs Non _ _ _)))) (by (repeat first | exact At.here | apply At.there); done) (by first | (simp; done) | decide | (show _ ≤ _; decide)) ?_
      clear H
      intro w5_1 H
      try dsimp only [replC, List.cons_append, List.nil_append, List.append_nil, agg, cellsL, Value.cells, List.toList_toArray, List.set_cons_zero, List.set_cons_succ, spliceL, List.take_succ_cons, List.take_zero, List.drop_succ_cons, List.drop_zero, List.length_cons, List.length_nil, Nat.reduceAdd, Row.cells, Cm.L, Rq.L, Tp.L, Bat.L] at H
      refine r_assign rfl ?_
      refine r_assign rfl ?_
      refine LW.nil ?_
      refine thenE_norm ?_
      refine cut (K := K7) [4, 5, 6] (fun σ => ?_)
      simp only [setL, keepE, upd_get, ev, Nat.reduceEqDiff, ↓reduceIte]
      refine h7 _ _ ?_; clear h7; try clear K7
      refine CW.ret (blockE_ret (thenE_ret (retC3 Try.results43 (by simp only [upd_get, ev, Nat.reduceEqDiff, ↓reduceIte] <;> rfl) (by simp only [upd_get, ev, Nat.reduceEqDiff, ↓reduceIte] <;> rfl) (by simp only [upd_get, ev, Nat.reduceEqDiff, ↓reduceIte] <;> rfl) Try.isAgg27 Try.sizeOf27 (by exact SH.cells H (by (repeat first | exact At.here | apply At.there); done)) (by rfl) ?_)))
      rw [getBat, bindR, if_pos hc1, if_pos hc2]
      exact ⟨_, none, rfl, nil_small, SH.give (H.addO (α := Rq) 32) (by repeat first | exact List.Sublist.refl _ | exact List.nil_sublist _ | apply List.Sublist.cons_cons | apply List.Sublist.cons) ⟨trivial, trivial⟩⟩
    · try simp only [decide_eq_true_eq, decide_eq_false_iff_not, Bool.and_eq_true, Bool.or_eq_true, Bool.and_eq_false_iff, Bool.or_eq_false_iff, Bool.not_eq_true', Bool.not_eq_false', beq_iff_eq, bne_iff_ne, ne_eq, Decidable.not_not] at hc2
      refine CW.seq (fun K8 h8 => ?_)
      refine CW.region ?_
      refine r_move rfl ?_
      refine r_eql rfl rfl rfl ?_
      refine r_assign rfl ?_
      refine LW.nil ?_
      refine thenE_norm ?_
      refine cut (K := K8) [0, 1, 4, 30] (fun σ => ?_)
      simp only [setL, keepE, upd_get, ev, Nat.reduceEqDiff, ↓reduceIte]
      refine h8 _ _ ?_; clear h8; try clear K8
      refine CW.cond rfl (fun hc3 => ?_) (fun hc3 => ?_)
      · try simp only [decide_eq_true_eq, decide_eq_false_iff_not, Bool.and_eq_true, Bool.or_eq_true, Bool.and_eq_false_iff, Bool.or_eq_false_iff, Bool.not_eq_true', Bool.not_eq_false', beq_iff_eq, bne_iff_ne, ne_eq, Decidable.not_not] at hc3
        refine CW.seq (fun K9 h9 => ?_)
        refine CW.region ?_
        refine r_buildQ rfl Try.underlying27 Try.zeroValue27 rfl (pl := [(0, 1), (1, 1), (2, 2), (4, 1), (5, 1)]) (by intro w; simp [go_sem]) (qs := [(0, [_])]) (cs := [_, .int .i64 0, .int .i64 0, .int .i64 0, .int .i64 0, .slice none 0 0]) ⟨rfl, cells_one (by simp only [upd_get, ev, Nat.reduceEqDiff, ↓reduceIte] <;> rfl) (by first | rfl | exact Rs.oneC (by first | assumption | exact SH.rsR H (by (repeat first | exact At.here | apply At.there); done) | exact SH.rsO H (by (repeat first | exact At.here | apply At.there); done) | exact (Rs.nil : Rs Non _ _ _))), trivial⟩ rfl ?_
        refine r_move rfl ?_
        refine s_storeA H Try.sizeOf27 rfl (by simp only [upd_get, ev, Nat.reduceEqDiff, ↓reduceIte] <;> rfl) (by simp only [cellsL, agg, List.toList_toArray, Row.cells, Cm.L, Rq.L, Tp.L, Bat.L] <;> rfl) (by rfl) (by first | rfl | assumption | exact Rs.oneC (by first | assumption | exact SH.rsR H (by (repeat first | exact At.here | apply At.there); done) | exact SH.rsO H (by (repeat first | exact At.here | apply At.there); done) | exact (Rs.nil : Rs Non _ _ _)) | (simp only [List.all_cons, List.all_nil, Bool.and_true, Bool.and_eq_true, Row.cells, Cm.L, Rq.L, Tp.L, Bat.L]; (repeat' constructor) <;> first | rfl | assumption | exact Rs.oneC (by first | assumption | exact SH.rsR H (by (repeat first | exact At.here | apply At.there); done) | exact SH.rsO H (by (repeat first | exact At.here | apply At.there); done) | exact (Rs.nil : Rs Non _ _ _)))) (by (repeat first | exact At.here | apply At.there); done) (by first | (simp; done) | decide | (show _ ≤ _; decide)) ?_
        clear H
        intro w7_2 H
        try dsimp only [replC, List.cons_append, List.nil_append, List.append_nil, agg, cellsL, Value.cells, List.toList_toArray, List.set_cons_zero, List.set_cons_succ, spliceL, List.take_succ_cons, List.take_zero, List.drop_succ_cons, List.drop_zero, List.length_cons, List.length_nil, Nat.reduceAdd, Row.cells, Cm.L, Rq.L, Tp.L, Bat.L] at H
        refine r_assign rfl ?_
        refine r_assign rfl ?_
        refine LW.nil ?_
        refine thenE_norm (h9 _ _ ?_); clear h9; try clear K9
        refine CW.ret (blockE_ret (thenE_ret (retC3 Try.results43 (by simp only [upd_get, ev, Nat.reduceEqDiff, ↓reduceIte] <;> rfl) (by simp only [upd_get, ev, Nat.reduceEqDiff, ↓reduceIte] <;> rfl) (by simp only [upd_get, ev, Nat.reduceEqDiff, ↓reduceIte] <;> rfl) Try.isAgg27 Try.sizeOf27 (by exact SH.cells H (by (repeat first | exact At.here | apply At.there); done)) (by rfl) ?_)))
        rw [getBat, bindR, if_pos hc1, if_neg hc2, if_pos hc3]
        exact ⟨_, none, rfl, nil_small, SH.give (H.addO (α := Rq) 32) (by repeat first | exact List.Sublist.refl _ | exact List.nil_sublist _ | apply List.Sublist.cons_cons | apply List.Sublist.cons) ⟨trivial, trivial⟩⟩
      · try simp only [decide_eq_true_eq, decide_eq_false_iff_not, Bool.and_eq_true, Bool.or_eq_true, Bool.and_eq_false_iff, Bool.or_eq_false_iff, Bool.not_eq_true', Bool.not_eq_false', beq_iff_eq, bne_iff_ne, ne_eq, Decidable.not_not] at hc3
        refine CW.skip ?_
        refine blockE_norm ?_
        refine thenE_norm (h3 _ _ ?_); clear h3; try clear K3
        refine CW.seq (fun K10 h10 => ?_)
        have hget : getBat xs at_ = bindR (numsR 4 []) ZB (fun l => bindR byteM ZB fun n => if 3 < n then failR ZB 4 else bindR (reqsR n.toNat []) ZB fun rs => chkR (mayBat false (l.getD 0 0) ⟨l.getD 1 0, l.getD 2 0⟩ (l.getD 3 0) rs) (false, l.getD 0 0, ⟨l.getD 1 0, l.getD 2 0⟩, l.getD 3 0, rs) ZB) xs (byteM xs at_).2.1 := by
          rw [getBat, bindR, if_pos hc1, if_neg hc2, if_neg hc3]
        generalize (byteM xs at_).2.1 = q at *
        obtain ⟨R4, h4⟩ : ∃ R, R = numsR 4 [] xs q := ⟨_, rfl⟩
        refine CW.region ?_
        refine r_buildQ rfl Try.underlying27 Try.zeroValue27 rfl (pl := [(0, 1), (1, 1), (2, 2), (4, 1), (5, 1)]) (by intro w; simp [go_sem]) (qs := []) (cs := [.bool false, .int .i64 0, .int .i64 0, .int .i64 0, .int .i64 0, .slice none 0 0]) trivial rfl ?_
        refine s_alloc (cs := [.bool false, .int .i64 0, .int .i64 0, .int .i64 0, .int .i64 0, .slice none 0 0]) H rfl Try.zeroValue27 rfl ?_
        clear H
        intro b8_1 w8_1 H
        try dsimp only [replC, List.cons_append, List.nil_append, List.append_nil, agg, cellsL, Value.cells, List.toList_toArray, List.set_cons_zero, List.set_cons_succ, spliceL, List.take_succ_cons, List.take_zero, List.drop_succ_cons, List.drop_zero, List.length_cons, List.length_nil, Nat.reduceAdd, Row.cells, Cm.L, Rq.L, Tp.L, Bat.L] at H
        refine s_storeA H Try.sizeOf27 rfl (by simp only [upd_get, ev, Nat.reduceEqDiff, ↓reduceIte] <;> rfl) (by simp only [cellsL, agg, List.toList_toArray, Row.cells, Cm.L, Rq.L, Tp.L, Bat.L] <;> rfl) (by rfl) (by first | rfl | assumption | exact Rs.oneC (by first | assumption | exact SH.rsR H (by (repeat first | exact At.here | apply At.there); done) | exact SH.rsO H (by (repeat first | exact At.here | apply At.there); done) | exact (Rs.nil : Rs Non _ _ _)) | (simp only [List.all_cons, List.all_nil, Bool.and_true, Bool.and_eq_true, Row.cells, Cm.L, Rq.L, Tp.L, Bat.L]; (repeat' constructor) <;> first | rfl | assumption | exact Rs.oneC (by first | assumption | exact SH.rsR H (by (repeat first | exact At.here | apply At.there); done) | exact SH.rsO H (by (repeat first | exact At.here | apply At.there); done) | exact (Rs.nil : Rs Non _ _ _)))) (by (repeat first | exact At.here | apply At.there); done) (by first | (simp; done) | decide | (show _ ≤ _; decide)) ?_
        clear H
        intro w8_2 H
        try dsimp only [replC, List.cons_append, List.nil_append, List.append_nil, agg, cellsL, Value.cells, List.toList_toArray, List.set_cons_zero, List.set_cons_succ, spliceL, List.take_succ_cons, List.take_zero, List.drop_succ_cons, List.drop_zero, List.length_cons, List.length_nil, Nat.reduceAdd, Row.cells, Cm.L, Rq.L, Tp.L, Bat.L] at H
        refine LW.nil ?_
        refine thenE_norm (h10 _ _ ?_); clear h10; try clear K10
        refine CW.seq (fun K11 h11 => ?_)
        refine CW.seq (fun K12 h12 => ?_)
        refine CW.region ?_
        refine r_fieldAddrO rfl Try.underlying27 rfl Try.sizeOf3 (by decide) (show _ = 1 from rfl) rfl ?_
        refine r_fieldAddrO rfl Try.underlying27 rfl Try.sizeOf24 (by decide) (show _ = 2 from rfl) rfl ?_
        refine r_fieldAddrO rfl Try.underlying24 rfl Try.sizeOf3 (by decide) (show _ = 2 from rfl) rfl ?_
        refine r_fieldAddrO rfl Try.underlying27 rfl Try.sizeOf24 (by decide) (show _ = 2 from rfl) rfl ?_
        refine r_fieldAddrO rfl Try.underlying24 rfl Try.sizeOf3 (by decide) (show _ = 3 from rfl) rfl ?_
        refine r_fieldAddrO rfl Try.underlying27 rfl Try.sizeOf3 (by decide) (show _ = 4 from rfl) rfl ?_
        refine r_buildArr (vs := [_, _, _, _]) rfl Try.underlying131 Try.zeroValue131 Try.sizeOf130 rfl (by simp only [List.map_cons, List.map_nil, List.toList_toArray, numbered, Nat.reduceAdd, upd_get, ev, Nat.reduceEqDiff, ↓reduceIte] <;> rfl) rfl (by rfl) ?_
        refine r_move rfl ?_
        refine LW.nil ?_
        refine thenE_norm ?_
        refine cut (K := K12) [0, 1, 4, 9, 42, 43] (fun σ => ?_)
        simp only [setL, keepE, upd_get, ev, Nat.reduceEqDiff, ↓reduceIte]
        refine h12 _ _ ?_; clear h12; try clear K12
        refine CW.block ?_
        refine CW.loopR [0, 4, 9, 42] [1, 43] (fun m vs w' => ∃ (i : Nat) (p : Int) (l : List Int), vs = [.int .i64 p, .int .i64 i] ∧ i ≤ 4 ∧ l.length = i ∧ m = 4 - i ∧ R4 = numsR (4 - i) l xs p ∧ SH Non Any w w' [.R (Old w) v xs, .B b0_0 27 [.bool false, .int .i64 0, .int .i64 0, .int .i64 0, .int .i64 0, .slice none 0 0], .B b8_1 27 (cellsN l)]) (4) ?_ ?_
        · exact ⟨0, q, [], rfl, by omega, rfl, rfl, h4, H⟩
        try clear H
        rintro n1 vs1 wL1 σ ⟨i, p, l, rfl, hi, hll, rfl, hrel, H⟩
        simp only [setL, keepE, upd_get, ev, Nat.reduceEqDiff, ↓reduceIte]
        refine CW.seq (fun K13 h13 => ?_)
        refine CW.region ?_
        refine r_lss rfl rfl rfl ?_
        refine LW.nil ?_
        refine thenE_norm (h13 _ _ ?_); clear h13; try clear K13
        refine CW.seq (fun K14 h14 => ?_)
        refine CW.cond rfl (fun hc4 => ?_) (fun hc4 => ?_)
        · try simp only [decide_eq_true_eq, decide_eq_false_iff_not, Bool.and_eq_true, Bool.or_eq_true, Bool.and_eq_false_iff, Bool.or_eq_false_iff, Bool.not_eq_true', Bool.not_eq_false', beq_iff_eq, bne_iff_ne, ne_eq, Decidable.not_not] at hc4
          refine CW.skip ?_
          refine thenE_norm (h14 _ _ ?_); clear h14; try clear K14
          refine CW.seq (fun K15 h15 => ?_)
          refine CW.block ?_
          refine CW.seq (fun K16 h16 => ?_)
          have hcell : ([.pointer (some ⟨b8_1, 1, none⟩), .pointer (some ⟨b8_1, 2, none⟩), .pointer (some ⟨b8_1, 3, none⟩), .pointer (some ⟨b8_1, 4, none⟩)] : List Value)[(i : Int).toNat]? = some (.pointer (some ⟨b8_1, 1 + l.length, none⟩)) := by
            have h4 : i = 0 ∨ i = 1 ∨ i = 2 ∨ i = 3 := by omega
            rw [hll]
            rcases h4 with h4 | h4 | h4 | h4 <;> rw [h4] <;> rfl
          have hcl := cellsN_len l (by omega)
          have hset := fun v => cellsN_set l v (by omega)
          have hk : 4 - i = (4 - (i + 1)) + 1 := by omega
          rw [hk, nums_s] at hrel
          refine CW.region ?_
          refine r_indexArr rfl Try.underlying131 Try.isAgg130 Try.sizeOf130 rfl (by simp only [upd_get, ev, Nat.reduceEqDiff, ↓reduceIte] <;> rfl) (by omega) (by omega) hcell ?_
          refine r_assign rfl ?_
          refine LW.nil ?_
          refine thenE_norm (h16 _ _ ?_); clear h16; try clear K16
          refine CW.seq (fun K17 h17 => ?_)
          refine CW.region ?_
          refine r_move rfl ?_
          refine r_move rfl ?_
          refine r_move rfl ?_
          refine r_call rfl Try.call85 (by simp only [List.map_cons, List.map_nil, List.map_toArray, List.toList_toArray, upd_get, ev, Nat.reduceEqDiff, ↓reduceIte] <;> rfl) (Num_c _ _ (Rs.bs (by first | assumption | exact SH.rsR H (by (repeat first | exact At.here | apply At.there); done) | exact SH.rsO H (by (repeat first | exact At.here | apply At.there); done) | exact (Rs.nil : Rs Non _ _ _)))) ?_
          rintro _ w12_3 ⟨rfl, X⟩
          refine ⟨_, rfl, ?_⟩
          replace H := SH.same H X
          clear X
          refine r_move rfl ?_
          refine r_extract rfl (by simp only [upd_get, ev, Nat.reduceEqDiff, ↓reduceIte] <;> rfl) (by simp only [List.getElem?_toArray, List.getElem?_cons_zero, List.getElem?_cons_succ] <;> rfl) ?_
          refine r_extract rfl (by simp only [upd_get, ev, Nat.reduceEqDiff, ↓reduceIte] <;> rfl) (by simp only [List.getElem?_toArray, List.getElem?_cons_zero, List.getElem?_cons_succ] <;> rfl) ?_
          refine r_extract rfl (by simp only [upd_get, ev, Nat.reduceEqDiff, ↓reduceIte] <;> rfl) (by simp only [List.getElem?_toArray, List.getElem?_cons_zero, List.getElem?_cons_succ] <;> rfl) ?_
          refine r_nilCheck rfl rfl ?_
          refine s_store H Try.sizeOf3 rfl (by simp only [upd_get, ev, Nat.reduceEqDiff, ↓reduceIte] <;> rfl) (by first | rfl | assumption | exact Rs.oneC (by first | assumption | exact SH.rsR H (by (repeat first | exact At.here | apply At.there); done) | exact SH.rsO H (by (repeat first | exact At.here | apply At.there); done) | exact (Rs.nil : Rs Non _ _ _)) | (simp only [List.all_cons, List.all_nil, Bool.and_true, Bool.and_eq_true, Row.cells, Cm.L, Rq.L, Tp.L, Bat.L]; (repeat' constructor) <;> first | rfl | assumption | exact Rs.oneC (by first | assumption | exact SH.rsR H (by (repeat first | exact At.here | apply At.there); done) | exact SH.rsO H (by (repeat first | exact At.here | apply At.there); done) | exact (Rs.nil : Rs Non _ _ _)))) (by (repeat first | exact At.here | apply At.there); done) (by first | (simp; done) | decide | omega) ?_
          clear H
          intro w12_9 H
          try dsimp only [replC, List.cons_append, List.nil_append, List.append_nil, agg, cellsL, Value.cells, List.toList_toArray, List.set_cons_zero, List.set_cons_succ, spliceL, List.take_succ_cons, List.take_zero, List.drop_succ_cons, List.drop_zero, List.length_cons, List.length_nil, Nat.reduceAdd, Row.cells, Cm.L, Rq.L, Tp.L, Bat.L] at H
          refine r_assign rfl ?_
          refine r_assign rfl ?_
          refine LW.nil ?_
          refine thenE_norm ?_
          refine cut (K := K17) [0, 1, 4, 8, 9, 42, 43] (fun σ => ?_)
          simp only [setL, keepE, upd_get, ev, Nat.reduceEqDiff, ↓reduceIte]
          refine h17 _ _ ?_; clear h17; try clear K17
          refine CW.seq (fun K18 h18 => ?_)
          rw [hset] at H
          refine CW.region ?_
          refine r_move rfl ?_
          refine r_neq rfl rfl rfl ?_
          refine LW.nil ?_
          refine thenE_norm (h18 _ _ ?_); clear h18; try clear K18
          refine CW.cond rfl (fun hc5 => ?_) (fun hc5 => ?_)
          · try simp only [decide_eq_true_eq, decide_eq_false_iff_not, Bool.and_eq_true, Bool.or_eq_true, Bool.and_eq_false_iff, Bool.or_eq_false_iff, Bool.not_eq_true', Bool.not_eq_false', beq_iff_eq, bne_iff_ne, ne_eq, Decidable.not_not] at hc5
            refine CW.seq (fun K19 h19 => ?_)
            refine CW.region ?_
            refine r_buildQ rfl Try.underlying27 Try.zeroValue27 rfl (pl := [(0, 1), (1, 1), (2, 2), (4, 1), (5, 1)]) (by intro w; simp [go_sem]) (qs := []) (cs := [.bool false, .int .i64 0, .int .i64 0, .int .i64 0, .int .i64 0, .slice none 0 0]) trivial rfl ?_
            refine r_move rfl ?_
            refine s_storeA H Try.sizeOf27 rfl (by simp only [upd_get, ev, Nat.reduceEqDiff, ↓reduceIte] <;> rfl) (by simp only [cellsL, agg, List.toList_toArray, Row.cells, Cm.L, Rq.L, Tp.L, Bat.L] <;> rfl) (by rfl) (by first | rfl | assumption | exact Rs.oneC (by first | assumption | exact SH.rsR H (by (repeat first | exact At.here | apply At.there); done) | exact SH.rsO H (by (repeat first | exact At.here | apply At.there); done) | exact (Rs.nil : Rs Non _ _ _)) | (simp only [List.all_cons, List.all_nil, Bool.and_true, Bool.and_eq_true, Row.cells, Cm.L, Rq.L, Tp.L, Bat.L]; (repeat' constructor) <;> first | rfl | assumption | exact Rs.oneC (by first | assumption | exact SH.rsR H (by (repeat first | exact At.here | apply At.there); done) | exact SH.rsO H (by (repeat first | exact At.here | apply At.there); done) | exact (Rs.nil : Rs Non _ _ _)))) (by (repeat first | exact At.here | apply At.there); done) (by first | (simp; done) | decide | (show _ ≤ _; decide)) ?_
            clear H
            intro w14_2 H
            try dsimp only [replC, List.cons_append, List.nil_append, List.append_nil, agg, cellsL, Value.cells, List.toList_toArray, List.set_cons_zero, List.set_cons_succ, spliceL, List.take_succ_cons, List.take_zero, List.drop_succ_cons, List.drop_zero, List.length_cons, List.length_nil, Nat.reduceAdd, Row.cells, Cm.L, Rq.L, Tp.L, Bat.L] at H
            refine r_assign rfl ?_
            refine r_assign rfl ?_
            refine LW.nil ?_
            refine thenE_norm (h19 _ _ ?_); clear h19; try clear K19
            refine CW.ret (blockE_ret (thenE_ret (thenE_ret (blockE_ret (thenE_ret (retC3 Try.results43 (by simp only [upd_get, ev, Nat.reduceEqDiff, ↓reduceIte] <;> rfl) (by simp only [upd_get, ev, Nat.reduceEqDiff, ↓reduceIte] <;> rfl) (by simp only [upd_get, ev, Nat.reduceEqDiff, ↓reduceIte] <;> rfl) Try.isAgg27 Try.sizeOf27 (by exact SH.cells H (by (repeat first | exact At.here | apply At.there); done)) (by rfl) ?_))))))
            rw [bindR, if_neg hc5] at hrel
            rw [hget, bindR, ← h4, hrel, if_neg hc5]
            exact ⟨_, none, rfl, nil_small, SH.give (H.addO (α := Rq) 32) (by repeat first | exact List.Sublist.refl _ | exact List.nil_sublist _ | apply List.Sublist.cons_cons | apply List.Sublist.cons) ⟨trivial, trivial⟩⟩
          · try simp only [decide_eq_true_eq, decide_eq_false_iff_not, Bool.and_eq_true, Bool.or_eq_true, Bool.and_eq_false_iff, Bool.or_eq_false_iff, Bool.not_eq_true', Bool.not_eq_false', beq_iff_eq, bne_iff_ne, ne_eq, Decidable.not_not] at hc5
            refine CW.skip ?_
            refine blockE_norm ?_
            refine thenE_norm (h15 _ _ ?_); clear h15; try clear K15
            refine CW.region ?_
            refine r_add rfl rfl rfl (wr_i64 (by omega) (by omega)) ?_
            refine r_move rfl ?_
            refine LW.nil ?_
            refine thenE_norm ⟨rfl, ?_⟩
            rw [bindR, if_pos hc5] at hrel
            exact ⟨4 - (i + 1), by omega, i + 1, _, _, rfl, by omega, by simp [hll], rfl, hrel, H⟩
        · try simp only [decide_eq_true_eq, decide_eq_false_iff_not, Bool.and_eq_true, Bool.or_eq_true, Bool.and_eq_false_iff, Bool.or_eq_false_iff, Bool.not_eq_true', Bool.not_eq_false', beq_iff_eq, bne_iff_ne, ne_eq, Decidable.not_not] at hc4
          refine CW.exit (thenE_exit (thenE_exit (blockE_hit ?_)))
          refine thenE_norm (h11 _ _ ?_); clear h11; try clear K11
          refine CW.seq (fun K20 h20 => ?_)
          obtain rfl : i = 4 := by omega
          obtain ⟨l0, l1, l2, l3, rfl⟩ := four_of hll
          have hrel2 : numsR 4 [] xs q = ([l0, l1, l2, l3], p, 0) := by rw [← h4]; exact hrel
          change SH Non Any w _ [.R (Old w) v xs, .B b0_0 27 [.bool false, .int .i64 0, .int .i64 0, .int .i64 0, .int .i64 0, .slice none 0 0], .B b8_1 27 [.bool false, .int .i64 l0, .int .i64 l1, .int .i64 l2, .int .i64 l3, .slice none 0 0]] at H
          refine CW.region ?_
          refine r_move rfl ?_
          refine r_move rfl ?_
          refine r_call rfl Try.call84 (by simp only [List.map_cons, List.map_nil, List.map_toArray, List.toList_toArray, upd_get, ev, Nat.reduceEqDiff, ↓reduceIte] <;> rfl) (Byte_c _ _ (Rs.bs (by first | assumption | exact SH.rsR H (by (repeat first | exact At.here | apply At.there); done) | exact SH.rsO H (by (repeat first | exact At.here | apply At.there); done) | exact (Rs.nil : Rs Non _ _ _)))) ?_
          rintro _ w16_2 ⟨rfl, X⟩
          refine ⟨_, rfl, ?_⟩
          replace H := SH.same H X
          clear X
          refine r_move rfl ?_
          refine r_extract rfl (by simp only [upd_get, ev, Nat.reduceEqDiff, ↓reduceIte] <;> rfl) (by simp only [List.getElem?_toArray, List.getElem?_cons_zero, List.getElem?_cons_succ] <;> rfl) ?_
          refine r_extract rfl (by simp only [upd_get, ev, Nat.reduceEqDiff, ↓reduceIte] <;> rfl) (by simp only [List.getElem?_toArray, List.getElem?_cons_zero, List.getElem?_cons_succ] <;> rfl) ?_
          refine r_extract rfl (by simp only [upd_get, ev, Nat.reduceEqDiff, ↓reduceIte] <;> rfl) (by simp only [List.getElem?_toArray, List.getElem?_cons_zero, List.getElem?_cons_succ] <;> rfl) ?_
          refine r_assign rfl ?_
          refine r_assign rfl ?_
          refine r_assign rfl ?_
          refine LW.nil ?_
          refine thenE_norm ?_
          refine cut (K := K20) [0, 1, 4, 8, 9, 12] (fun σ => ?_)
          simp only [setL, keepE, upd_get, ev, Nat.reduceEqDiff, ↓reduceIte]
          refine h20 _ _ ?_; clear h20; try clear K20
          refine CW.seq (fun K21 h21 => ?_)
          refine CW.seq (fun K22 h22 => ?_)
          refine CW.region ?_
          refine r_move rfl ?_
          refine r_neq rfl rfl rfl ?_
          refine LW.nil ?_
          refine thenE_norm (h22 _ _ ?_); clear h22; try clear K22
          refine CW.cond rfl (fun hc6 => ?_) (fun hc6 => ?_)
          · try simp only [decide_eq_true_eq, decide_eq_false_iff_not, Bool.and_eq_true, Bool.or_eq_true, Bool.and_eq_false_iff, Bool.or_eq_false_iff, Bool.not_eq_true', Bool.not_eq_false', beq_iff_eq, bne_iff_ne, ne_eq, Decidable.not_not] at hc6
            refine CW.seq (fun K23 h23 => ?_)
            refine CW.region ?_
            refine r_buildQ rfl Try.underlying27 Try.zeroValue27 rfl (pl := [(0, 1), (1, 1), (2, 2), (4, 1), (5, 1)]) (by intro w; simp [go_sem]) (qs := []) (cs := [.bool false, .int .i64 0, .int .i64 0, .int .i64 0, .int .i64 0, .slice none 0 0]) trivial rfl ?_
            refine r_move rfl ?_
            refine s_storeA H Try.sizeOf27 rfl (by simp only [upd_get, ev, Nat.reduceEqDiff, ↓reduceIte] <;> rfl) (by simp only [cellsL, agg, List.toList_toArray, Row.cells, Cm.L, Rq.L, Tp.L, Bat.L] <;> rfl) (by rfl) (by first | rfl | assumption | exact Rs.oneC (by first | assumption | exact SH.rsR H (by (repeat first | exact At.here | apply At.there); done) | exact SH.rsO H (by (repeat first | exact At.here | apply At.there); done) | exact (Rs.nil : Rs Non _ _ _)) | (simp only [List.all_cons, List.all_nil, Bool.and_true, Bool.and_eq_true, Row.cells, Cm.L, Rq.L, Tp.L, Bat.L]; (repeat' constructor) <;> first | rfl | assumption | exact Rs.oneC (by first | assumption | exact SH.rsR H (by (repeat first | exact At.here | apply At.there); done) | exact SH.rsO H (by (repeat first | exact At.here | apply At.there); done) | exact (Rs.nil : Rs Non _ _ _)))) (by (repeat first | exact At.here | apply At.there); done) (by first | (simp; done) | decide | (show _ ≤ _; decide)) ?_
            clear H
            intro w18_2 H
            try dsimp only [replC, List.cons_append, List.nil_append, List.append_nil, agg, cellsL, Value.cells, List.toList_toArray, List.set_cons_zero, List.set_cons_succ, spliceL, List.take_succ_cons, List.take_zero, List.drop_succ_cons, List.drop_zero, List.length_cons, List.length_nil, Nat.reduceAdd, Row.cells, Cm.L, Rq.L, Tp.L, Bat.L] at H
            refine r_assign rfl ?_
            refine r_assign rfl ?_
            refine LW.nil ?_
            refine thenE_norm (h23 _ _ ?_); clear h23; try clear K23
            refine CW.ret (thenE_ret (retC3 Try.results43 (by simp only [upd_get, ev, Nat.reduceEqDiff, ↓reduceIte] <;> rfl) (by simp only [upd_get, ev, Nat.reduceEqDiff, ↓reduceIte] <;> rfl) (by simp only [upd_get, ev, Nat.reduceEqDiff, ↓reduceIte] <;> rfl) Try.isAgg27 Try.sizeOf27 (by exact SH.cells H (by (repeat first | exact At.here | apply At.there); done)) (by rfl) ?_))
            rw [hget, bindR, hrel2, if_pos rfl, bindR, if_neg hc6]
            exact ⟨_, none, rfl, nil_small, SH.give (H.addO (α := Rq) 32) (by repeat first | exact List.Sublist.refl _ | exact List.nil_sublist _ | apply List.Sublist.cons_cons | apply List.Sublist.cons) ⟨trivial, trivial⟩⟩
          · try simp only [decide_eq_true_eq, decide_eq_false_iff_not, Bool.and_eq_true, Bool.or_eq_true, Bool.and_eq_false_iff, Bool.or_eq_false_iff, Bool.not_eq_true', Bool.not_eq_false', beq_iff_eq, bne_iff_ne, ne_eq, Decidable.not_not] at hc6
            refine CW.skip ?_
            refine thenE_norm (h21 _ _ ?_); clear h21; try clear K21
            refine CW.seq (fun K24 h24 => ?_)
            refine CW.seq (fun K25 h25 => ?_)
            refine CW.region ?_
            refine r_move rfl ?_
            refine r_gtr rfl rfl rfl ?_
            refine LW.nil ?_
            refine thenE_norm (h25 _ _ ?_); clear h25; try clear K25
            refine CW.cond rfl (fun hc7 => ?_) (fun hc7 => ?_)
            · try simp only [decide_eq_true_eq, decide_eq_false_iff_not, Bool.and_eq_true, Bool.or_eq_true, Bool.and_eq_false_iff, Bool.or_eq_false_iff, Bool.not_eq_true', Bool.not_eq_false', beq_iff_eq, bne_iff_ne, ne_eq, Decidable.not_not] at hc7
              refine CW.seq (fun K26 h26 => ?_)
              refine CW.region ?_
              refine r_buildQ rfl Try.underlying27 Try.zeroValue27 rfl (pl := [(0, 1), (1, 1), (2, 2), (4, 1), (5, 1)]) (by intro w; simp [go_sem]) (qs := []) (cs := [.bool false, .int .i64 0, .int .i64 0, .int .i64 0, .int .i64 0, .slice none 0 0]) trivial rfl ?_
              refine s_storeA H Try.sizeOf27 rfl (by simp only [upd_get, ev, Nat.reduceEqDiff, ↓reduceIte] <;> rfl) (by simp only [cellsL, agg, List.toList_toArray, Row.cells, Cm.L, Rq.L, Tp.L, Bat.L] <;> rfl) (by rfl) (by first | rfl | assumption | exact Rs.oneC (by first | assumption | exact SH.rsR H (by (repeat first | exact At.here | apply At.there); done) | exact SH.rsO H (by (repeat first | exact At.here | apply At.there); done) | exact (Rs.nil : Rs Non _ _ _)) | (simp only [List.all_cons, List.all_nil, Bool.and_true, Bool.and_eq_true, Row.cells, Cm.L, Rq.L, Tp.L, Bat.L]; (repeat' constructor) <;> first | rfl | assumption | exact Rs.oneC (by first | assumption | exact SH.rsR H (by (repeat first | exact At.here | apply At.there); done) | exact SH.rsO H (by (repeat first | exact At.here | apply At.there); done) | exact (Rs.nil : Rs Non _ _ _)))) (by (repeat first | exact At.here | apply At.there); done) (by first | (simp; done) | decide | (show _ ≤ _; decide)) ?_
              clear H
              intro w20_1 H
              try dsimp only [replC, List.cons_append, List.nil_append, List.append_nil, agg, cellsL, Value.cells, List.toList_toArray, List.set_cons_zero, List.set_cons_succ, spliceL, List.take_succ_cons, List.take_zero, List.drop_succ_cons, List.drop_zero, List.length_cons, List.length_nil, Nat.reduceAdd, Row.cells, Cm.L, Rq.L, Tp.L, Bat.L] at H
              refine r_assign rfl ?_
              refine r_assign rfl ?_
              refine LW.nil ?_
              refine thenE_norm ?_
              refine cut (K := K26) [4, 5, 6] (fun σ => ?_)
              simp only [setL, keepE, upd_get, ev, Nat.reduceEqDiff, ↓reduceIte]
              refine h26 _ _ ?_; clear h26; try clear K26
              refine CW.ret (thenE_ret (retC3 Try.results43 (by simp only [upd_get, ev, Nat.reduceEqDiff, ↓reduceIte] <;> rfl) (by simp only [upd_get, ev, Nat.reduceEqDiff, ↓reduceIte] <;> rfl) (by simp only [upd_get, ev, Nat.reduceEqDiff, ↓reduceIte] <;> rfl) Try.isAgg27 Try.sizeOf27 (by exact SH.cells H (by (repeat first | exact At.here | apply At.there); done)) (by rfl) ?_))
              rw [hget, bindR, hrel2, if_pos rfl, bindR, if_pos hc6, if_pos hc7]
              exact ⟨_, none, rfl, nil_small, SH.give (H.addO (α := Rq) 32) (by repeat first | exact List.Sublist.refl _ | exact List.nil_sublist _ | apply List.Sublist.cons_cons | apply List.Sublist.cons) ⟨trivial, trivial⟩⟩
            · try simp only [decide_eq_true_eq, decide_eq_false_iff_not, Bool.and_eq_true, Bool.or_eq_true, Bool.and_eq_false_iff, Bool.or_eq_false_iff, Bool.not_eq_true', Bool.not_eq_false', beq_iff_eq, bne_iff_ne, ne_eq, Decidable.not_not] at hc7
              refine CW.skip ?_
              refine thenE_norm (h24 _ _ ?_); clear h24; try clear K24
              refine CW.seq (fun K27 h27 => ?_)
              refine CW.seq (fun K28 h28 => ?_)
              have hbr := bat_byte xs p
              have hget2 : getBat xs at_ = bindR (reqsR (byteM xs p).1.toNat []) ZB (fun rs => chkR (mayBat false l0 ⟨l1, l2⟩ l3 rs) (false, l0, ⟨l1, l2⟩, l3, rs) ZB) xs (byteM xs p).2.1 := by
                rw [hget, bindR, hrel2, if_pos rfl, bindR, if_pos hc6, if_neg hc7]
                rfl
              generalize (byteM xs p).2.1 = q2, (byteM xs p).1 = n at *
              refine CW.region ?_
              refine r_move rfl ?_
              refine r_move rfl ?_
              refine LW.nil ?_
              refine thenE_norm (h28 _ _ ?_); clear h28; try clear K28
              refine CW.block ?_
              refine CW.loopR [0, 4, 9, 74] [1, 75] (fun m vs w' => ∃ (i : Nat) (u : Value) (g : Option Nat) (p : Int) (l : List Rq), vs = [.int .i64 p, .int .i64 i] ∧ i ≤ n ∧ l.length = i ∧ m = n.toNat - i ∧ smallQ l ∧ reqsR n.toNat [] xs q2 = reqsR (n.toNat - i) l xs p ∧ SH Non Any w w' [.R (Old w) v xs, .B b0_0 27 [.bool false, .int .i64 0, .int .i64 0, .int .i64 0, .int .i64 0, .slice none 0 0], .B b8_1 27 [.bool false, .int .i64 l0, .int .i64 l1, .int .i64 l2, .int .i64 l3, u], .O 32 u l g]) (n.toNat) ?_ ?_
              · exact ⟨0, .slice none 0 0, none, q2, [], rfl, by omega, rfl, by omega, nil_small, rfl, H.addO (α := Rq) 32⟩
              try clear H
              rintro n2 vs2 wL2 σ ⟨i, u, g, p2, l, rfl, hi, hll2, rfl, hsm, hrl, H⟩
              simp only [setL, keepE, upd_get, ev, Nat.reduceEqDiff, ↓reduceIte]
              refine CW.seq (fun K29 h29 => ?_)
              refine CW.region ?_
              refine r_lss rfl rfl rfl ?_
              refine LW.nil ?_
              refine thenE_norm (h29 _ _ ?_); clear h29; try clear K29
              refine CW.seq (fun K30 h30 => ?_)
              refine CW.cond rfl (fun hc8 => ?_) (fun hc8 => ?_)
              · try simp only [decide_eq_true_eq, decide_eq_false_iff_not, Bool.and_eq_true, Bool.or_eq_true, Bool.and_eq_false_iff, Bool.or_eq_false_iff, Bool.not_eq_true', Bool.not_eq_false', beq_iff_eq, bne_iff_ne, ne_eq, Decidable.not_not] at hc8
                refine CW.skip ?_
                refine thenE_norm (h30 _ _ ?_); clear h30; try clear K30
                refine CW.seq (fun K31 h31 => ?_)
                refine CW.block ?_
                refine CW.seq (fun K32 h32 => ?_)
                have hk : n.toNat - i = (n.toNat - (i + 1)) + 1 := by omega
                rw [hk, reqs_s] at hrl
                have hts := getRq_small xs p2
                refine CW.region ?_
                refine r_buildQ rfl Try.underlying32 Try.zeroValue32 rfl (pl := [(0, 1), (1, 1), (2, 3)]) (by intro w; simp [go_sem]) (qs := []) (cs := [.int .i64 0, .int .i64 0, .int .i64 0, .int .i64 0, .string (ByteArray.mk #[])]) trivial rfl ?_
                refine s_alloc (cs := [.int .i64 0, .int .i64 0, .int .i64 0, .int .i64 0, .string (ByteArray.mk #[])]) H rfl Try.zeroValue32 rfl ?_
                clear H
                intro b23_1 w23_1 H
                try dsimp only [replC, List.cons_append, List.nil_append, List.append_nil, agg, cellsL, Value.cells, List.toList_toArray, List.set_cons_zero, List.set_cons_succ, spliceL, List.take_succ_cons, List.take_zero, List.drop_succ_cons, List.drop_zero, List.length_cons, List.length_nil, Nat.reduceAdd, Row.cells, Cm.L, Rq.L, Tp.L, Bat.L] at H
                refine s_storeA H Try.sizeOf32 rfl (by simp only [upd_get, ev, Nat.reduceEqDiff, ↓reduceIte] <;> rfl) (by simp only [cellsL, agg, List.toList_toArray, Row.cells, Cm.L, Rq.L, Tp.L, Bat.L] <;> rfl) (by rfl) (by first | rfl | assumption | exact Rs.oneC (by first | assumption | exact SH.rsR H (by (repeat first | exact At.here | apply At.there); done) | exact SH.rsO H (by (repeat first | exact At.here | apply At.there); done) | exact (Rs.nil : Rs Non _ _ _)) | (simp only [List.all_cons, List.all_nil, Bool.and_true, Bool.and_eq_true, Row.cells, Cm.L, Rq.L, Tp.L, Bat.L]; (repeat' constructor) <;> first | rfl | assumption | exact Rs.oneC (by first | assumption | exact SH.rsR H (by (repeat first | exact At.here | apply At.there); done) | exact SH.rsO H (by (repeat first | exact At.here | apply At.there); done) | exact (Rs.nil : Rs Non _ _ _)))) (by (repeat first | exact At.here | apply At.there); done) (by first | (simp; done) | decide | (show _ ≤ _; decide)) ?_
                clear H
                intro w23_2 H
                try dsimp only [replC, List.cons_append, List.nil_append, List.append_nil, agg, cellsL, Value.cells, List.toList_toArray, List.set_cons_zero, List.set_cons_succ, spliceL, List.take_succ_cons, List.take_zero, List.drop_succ_cons, List.drop_zero, List.length_cons, List.length_nil, Nat.reduceAdd, Row.cells, Cm.L, Rq.L, Tp.L, Bat.L] at H
                refine LW.nil ?_
                refine thenE_norm (h32 _ _ ?_); clear h32; try clear K32
                refine CW.seq (fun K33 h33 => ?_)
                refine CW.seq (fun K34 h34 => ?_)
                refine CW.region ?_
                refine r_move rfl ?_
                refine r_move rfl ?_
                refine r_call rfl Try.call86 (by simp only [List.map_cons, List.map_nil, List.map_toArray, List.toList_toArray, upd_get, ev, Nat.reduceEqDiff, ↓reduceIte] <;> rfl) (GetRqS_c _ _ (by first | assumption | exact SH.rsR H (by (repeat first | exact At.here | apply At.there); done) | exact SH.rsO H (by (repeat first | exact At.here | apply At.there); done) | exact (Rs.nil : Rs Non _ _ _))) ?_
                rintro _ w24_2 ⟨rfl, X⟩
                refine ⟨_, rfl, ?_⟩
                replace H := SH.same H X
                clear X
                refine r_move rfl ?_
                refine r_extract rfl (by simp only [upd_get, ev, Nat.reduceEqDiff, ↓reduceIte] <;> rfl) (by simp only [List.getElem?_toArray, List.getElem?_cons_zero, List.getElem?_cons_succ] <;> rfl) ?_
                refine r_extract rfl (by simp only [upd_get, ev, Nat.reduceEqDiff, ↓reduceIte] <;> rfl) (by simp only [List.getElem?_toArray, List.getElem?_cons_zero, List.getElem?_cons_succ] <;> rfl) ?_
                refine r_extract rfl (by simp only [upd_get, ev, Nat.reduceEqDiff, ↓reduceIte] <;> rfl) (by simp only [List.getElem?_toArray, List.getElem?_cons_zero, List.getElem?_cons_succ] <;> rfl) ?_
                refine s_storeA H Try.sizeOf32 rfl (by simp only [upd_get, ev, Nat.reduceEqDiff, ↓reduceIte] <;> rfl) (by simp only [cellsL, agg, List.toList_toArray, Row.cells, Cm.L, Rq.L, Tp.L, Bat.L] <;> rfl) (by rfl) (by first | rfl | assumption | exact Rs.oneC (by first | assumption | exact SH.rsR H (by (repeat first | exact At.here | apply At.there); done) | exact SH.rsO H (by (repeat first | exact At.here | apply At.there); done) | exact (Rs.nil : Rs Non _ _ _)) | (simp only [List.all_cons, List.all_nil, Bool.and_true, Bool.and_eq_true, Row.cells, Cm.L, Rq.L, Tp.L, Bat.L]; (repeat' constructor) <;> first | rfl | assumption | exact Rs.oneC (by first | assumption | exact SH.rsR H (by (repeat first | exact At.here | apply At.there); done) | exact SH.rsO H (by (repeat first | exact At.here | apply At.there); done) | exact (Rs.nil : Rs Non _ _ _)))) (by (repeat first | exact At.here | apply At.there); done) (by first | (simp; done) | decide | (show _ ≤ _; decide)) ?_
                clear H
                intro w24_7 H
                try dsimp only [replC, List.cons_append, List.nil_append, List.append_nil, agg, cellsL, Value.cells, List.toList_toArray, List.set_cons_zero, List.set_cons_succ, spliceL, List.take_succ_cons, List.take_zero, List.drop_succ_cons, List.drop_zero, List.length_cons, List.length_nil, Nat.reduceAdd, Row.cells, Cm.L, Rq.L, Tp.L, Bat.L] at H
                refine r_assign rfl ?_
                refine r_assign rfl ?_
                refine LW.nil ?_
                refine thenE_norm ?_
                refine cut (K := K34) [0, 1, 4, 8, 9, 13, 74, 75] (fun σ => ?_)
                simp only [setL, keepE, upd_get, ev, Nat.reduceEqDiff, ↓reduceIte]
                refine h34 _ _ ?_; clear h34; try clear K34
                refine CW.seq (fun K35 h35 => ?_)
                refine CW.region ?_
                refine r_move rfl ?_
                refine r_neq rfl rfl rfl ?_
                refine LW.nil ?_
                refine thenE_norm (h35 _ _ ?_); clear h35; try clear K35
                refine CW.cond rfl (fun hc9 => ?_) (fun hc9 => ?_)
                · try simp only [decide_eq_true_eq, decide_eq_false_iff_not, Bool.and_eq_true, Bool.or_eq_true, Bool.and_eq_false_iff, Bool.or_eq_false_iff, Bool.not_eq_true', Bool.not_eq_false', beq_iff_eq, bne_iff_ne, ne_eq, Decidable.not_not] at hc9
                  refine CW.seq (fun K36 h36 => ?_)
                  refine CW.region ?_
                  refine r_buildQ rfl Try.underlying27 Try.zeroValue27 rfl (pl := [(0, 1), (1, 1), (2, 2), (4, 1), (5, 1)]) (by intro w; simp [go_sem]) (qs := []) (cs := [.bool false, .int .i64 0, .int .i64 0, .int .i64 0, .int .i64 0, .slice none 0 0]) trivial rfl ?_
                  refine r_move rfl ?_
                  refine s_storeA H Try.sizeOf27 rfl (by simp only [upd_get, ev, Nat.reduceEqDiff, ↓reduceIte] <;> rfl) (by simp only [cellsL, agg, List.toList_toArray, Row.cells, Cm.L, Rq.L, Tp.L, Bat.L] <;> rfl) (by rfl) (by first | rfl | assumption | exact Rs.oneC (by first | assumption | exact SH.rsR H (by (repeat first | exact At.here | apply At.there); done) | exact SH.rsO H (by (repeat first | exact At.here | apply At.there); done) | exact (Rs.nil : Rs Non _ _ _)) | (simp only [List.all_cons, List.all_nil, Bool.and_true, Bool.and_eq_true, Row.cells, Cm.L, Rq.L, Tp.L, Bat.L]; (repeat' constructor) <;> first | rfl | assumption | exact Rs.oneC (by first | assumption | exact SH.rsR H (by (repeat first | exact At.here | apply At.there); done) | exact SH.rsO H (by (repeat first | exact At.here | apply At.there); done) | exact (Rs.nil : Rs Non _ _ _)))) (by (repeat first | exact At.here | apply At.there); done) (by first | (simp; done) | decide | (show _ ≤ _; decide)) ?_
                  clear H
                  intro w26_2 H
                  try dsimp only [replC, List.cons_append, List.nil_append, List.append_nil, agg, cellsL, Value.cells, List.toList_toArray, List.set_cons_zero, List.set_cons_succ, spliceL, List.take_succ_cons, List.take_zero, List.drop_succ_cons, List.drop_zero, List.length_cons, List.length_nil, Nat.reduceAdd, Row.cells, Cm.L, Rq.L, Tp.L, Bat.L] at H
                  refine r_assign rfl ?_
                  refine r_assign rfl ?_
                  refine LW.nil ?_
                  refine thenE_norm (h36 _ _ ?_); clear h36; try clear K36
                  refine CW.ret (thenE_ret (blockE_ret (thenE_ret (thenE_ret (blockE_ret (thenE_ret (retC3 Try.results43 (by simp only [upd_get, ev, Nat.reduceEqDiff, ↓reduceIte] <;> rfl) (by simp only [upd_get, ev, Nat.reduceEqDiff, ↓reduceIte] <;> rfl) (by simp only [upd_get, ev, Nat.reduceEqDiff, ↓reduceIte] <;> rfl) Try.isAgg27 Try.sizeOf27 (by exact SH.cells H (by (repeat first | exact At.here | apply At.there); done)) (by rfl) ?_)))))))
                  rw [bindR, if_neg hc9] at hrl
                  rw [hget2, bindR, hrl, if_neg hc9]
                  exact ⟨_, none, rfl, nil_small, SH.give (H.addO (α := Rq) 32) (by repeat first | exact List.Sublist.refl _ | exact List.nil_sublist _ | apply List.Sublist.cons_cons | apply List.Sublist.cons) ⟨trivial, trivial⟩⟩
                · try simp only [decide_eq_true_eq, decide_eq_false_iff_not, Bool.and_eq_true, Bool.or_eq_true, Bool.and_eq_false_iff, Bool.or_eq_false_iff, Bool.not_eq_true', Bool.not_eq_false', beq_iff_eq, bne_iff_ne, ne_eq, Decidable.not_not] at hc9
                  refine CW.skip ?_
                  refine thenE_norm (h33 _ _ ?_); clear h33; try clear K33
                  refine CW.region ?_
                  refine r_fieldAddrO rfl Try.underlying27 rfl Try.sizeOf25 (by decide) (show _ = 5 from rfl) rfl ?_
                  refine r_load rfl Try.isAgg25 rfl (by first | exact SH.cellB H (by (repeat first | exact At.here | apply At.there); done) (by rfl) | assumption) ?_
                  refine r_loadA rfl Try.isAgg32 Try.sizeOf32 rfl (by first | exact SH.cells H (by (repeat first | exact At.here | apply At.there); done)) (by rfl) ?_
                  refine r_buildSliceA (vs := [_]) rfl Try.underlying25 Try.sizeOf32 Try.zeroValue32 rfl rfl rfl rfl (by simp only [List.map_cons, List.map_nil, List.toList_toArray, numbered, Nat.reduceAdd, upd_get, ev, Nat.reduceEqDiff, ↓reduceIte] <;> rfl) rfl (by intro v hv; simp only [List.mem_cons, List.not_mem_nil, or_false] at hv; rcases hv with rfl <;> rfl) ?_
                  intro b27_3 w27_3 hb27_3 hs27_3 hE27_3 hB27_3
                  replace H := SH.call H (SH.fromB hE27_3 hb27_3 hs27_3 hB27_3)
                  clear hb27_3 hs27_3 hE27_3 hB27_3
                  try dsimp only [replC, List.cons_append, List.nil_append, List.append_nil, agg, cellsL, Value.cells, List.toList_toArray, List.set_cons_zero, List.set_cons_succ, spliceL, List.take_succ_cons, List.take_zero, List.drop_succ_cons, List.drop_zero, List.length_cons, List.length_nil, Nat.reduceAdd, Row.cells, Cm.L, Rq.L, Tp.L, Bat.L] at H
                  replace H := SH.row (b := b27_3) (xs := ([(getRq xs p2).1] : List Rq)) (n := 1) (cap := 1) H (by (repeat first | exact At.here | apply At.there); done) (by simp only [flat, List.flatMap_cons, List.flatMap_nil, cellsL, agg, List.append_nil, List.cons_append, List.nil_append, List.toList_toArray, Row.cells, Cm.L, Rq.L, Tp.L, Bat.L] <;> rfl) (by intro x hx; first | rfl | (simp at hx; done) | (simp only [List.mem_cons, List.not_mem_nil, or_false] at hx; rcases hx with rfl <;> first | rfl | exact (by first | rfl | assumption | exact Rs.oneC (by first | assumption | exact SH.rsR H (by (repeat first | exact At.here | apply At.there); done) | exact SH.rsO H (by (repeat first | exact At.here | apply At.there); done) | exact (Rs.nil : Rs Non _ _ _)) | (simp only [List.all_cons, List.all_nil, Bool.and_true, Bool.and_eq_true, Row.cells, Cm.L, Rq.L, Tp.L, Bat.L]; (repeat' constructor) <;> first | rfl | assumption | exact Rs.oneC (by first | assumption | exact SH.rsR H (by (repeat first | exact At.here | apply At.there); done) | exact SH.rsO H (by (repeat first | exact At.here | apply At.there); done) | exact (Rs.nil : Rs Non _ _ _)))))) (by rfl) rfl (by decide)
                  try dsimp only [replC, List.cons_append, List.nil_append, List.append_nil, agg, cellsL, Value.cells, List.toList_toArray, List.set_cons_zero, List.set_cons_succ, spliceL, List.take_succ_cons, List.take_zero, List.drop_succ_cons, List.drop_zero, List.length_cons, List.length_nil, Nat.reduceAdd, Row.cells, Cm.L, Rq.L, Tp.L, Bat.L] at H
                  refine s_append H rfl Try.underlying25 Try.underlying25 Try.type32 rfl (by simp only [upd_get, ev, Nat.reduceEqDiff, ↓reduceIte] <;> rfl) (by simp only [upd_get, ev, Nat.reduceEqDiff, ↓reduceIte] <;> rfl) (by (repeat first | exact At.here | apply At.there); done) (by first | assumption | exact SH.rsR H (by (repeat first | exact At.here | apply At.there); done) | exact SH.rsO H (by (repeat first | exact At.here | apply At.there); done) | exact (Rs.nil : Rs Non _ _ _)) (by rfl) (by rfl) (by first | omega | (simp only [Try.t32, List.length_append, List.length_cons, List.length_nil, List.length_map, maxLen]; omega) | (simp [Try.t32, maxLen]; omega)) (by first | omega | (simp only [Try.t32, List.length_append, List.length_cons, List.length_nil, List.length_map, maxLen]; omega) | (simp [Try.t32, maxLen]; omega)) ?_
                  clear H
                  intro v27_4 w27_4 g27_4 H hN27_4
                  try dsimp only [replC, List.cons_append, List.nil_append, List.append_nil] at H
                  refine r_fieldAddrO rfl Try.underlying27 rfl Try.sizeOf25 (by decide) (show _ = 5 from rfl) rfl ?_
                  refine s_store H Try.sizeOf25 rfl (by simp only [upd_get, ev, Nat.reduceEqDiff, ↓reduceIte] <;> rfl) (by first | rfl | assumption | exact Rs.oneC (by first | assumption | exact SH.rsR H (by (repeat first | exact At.here | apply At.there); done) | exact SH.rsO H (by (repeat first | exact At.here | apply At.there); done) | exact (Rs.nil : Rs Non _ _ _)) | (simp only [List.all_cons, List.all_nil, Bool.and_true, Bool.and_eq_true, Row.cells, Cm.L, Rq.L, Tp.L, Bat.L]; (repeat' constructor) <;> first | rfl | assumption | exact Rs.oneC (by first | assumption | exact SH.rsR H (by (repeat first | exact At.here | apply At.there); done) | exact SH.rsO H (by (repeat first | exact At.here | apply At.there); done) | exact (Rs.nil : Rs Non _ _ _)))) (by (repeat first | exact At.here | apply At.there); done) (by first | (simp; done) | decide | omega) ?_
                  clear H
                  intro w27_6 H
                  try dsimp only [replC, List.cons_append, List.nil_append, List.append_nil, agg, cellsL, Value.cells, List.toList_toArray, List.set_cons_zero, List.set_cons_succ, spliceL, List.take_succ_cons, List.take_zero, List.drop_succ_cons, List.drop_zero, List.length_cons, List.length_nil, Nat.reduceAdd, Row.cells, Cm.L, Rq.L, Tp.L, Bat.L] at H
                  refine LW.nil ?_
                  refine blockE_norm ?_
                  refine thenE_norm (h31 _ _ ?_); clear h31; try clear K31
                  refine CW.region ?_
                  refine r_add rfl rfl rfl (wr_i64 (by omega) (by omega)) ?_
                  refine r_move rfl ?_
                  refine LW.nil ?_
                  refine thenE_norm ⟨rfl, ?_⟩
                  rw [bindR, if_pos hc9] at hrl
                  exact ⟨n.toNat - (i + 1), by omega, i + 1, _, _, _, _, rfl, by omega, by simp [hll2], rfl, (fun g hg => by rcases List.mem_append.1 hg with hg | hg; exact hsm g hg; rw [List.mem_singleton] at hg; subst hg; show _ ≤ (9223372036854775807 : Nat); omega), hrl, SH.sel H [0, 1, 2, 3] (by decide) rfl⟩
              · try simp only [decide_eq_true_eq, decide_eq_false_iff_not, Bool.and_eq_true, Bool.or_eq_true, Bool.and_eq_false_iff, Bool.or_eq_false_iff, Bool.not_eq_true', Bool.not_eq_false', beq_iff_eq, bne_iff_ne, ne_eq, Decidable.not_not] at hc8
                refine CW.exit (thenE_exit (thenE_exit (blockE_hit ?_)))
                refine thenE_norm (h27 _ _ ?_); clear h27; try clear K27
                refine CW.seq (fun K37 h37 => ?_)
                refine CW.seq (fun K38 h38 => ?_)
                obtain rfl : n = i := by omega
                rw [show (i : Int).toNat - i = 0 by omega] at hrl
                have hrl2 : reqsR (i : Int).toNat [] xs q2 = (l, p2, 0) := hrl
                refine CW.region ?_
                refine r_loadA rfl Try.isAgg27 Try.sizeOf27 rfl (by first | exact SH.cells H (by (repeat first | exact At.here | apply At.there); done)) (by rfl) ?_
                refine r_call rfl Try.call19 (by simp only [List.map_cons, List.map_nil, List.map_toArray, List.toList_toArray, upd_get, ev, Nat.reduceEqDiff, ↓reduceIte] <;> rfl) (MayBat_c ⟨_, _, ⟨_, _⟩, _, _⟩ _ (by first | assumption | exact SH.rsR H (by (repeat first | exact At.here | apply At.there); done) | exact SH.rsO H (by (repeat first | exact At.here | apply At.there); done) | exact (Rs.nil : Rs Non _ _ _)) (by assumption)) ?_
                rintro _ w29_1 ⟨rfl, X⟩
                refine ⟨_, rfl, ?_⟩
                replace H := SH.same H X
                clear X
                refine r_not rfl rfl ?_
                refine LW.nil ?_
                refine thenE_norm (h38 _ _ ?_); clear h38; try clear K38
                refine CW.cond rfl (fun hc10 => ?_) (fun hc10 => ?_)
                · try simp only [decide_eq_true_eq, decide_eq_false_iff_not, Bool.and_eq_true, Bool.or_eq_true, Bool.and_eq_false_iff, Bool.or_eq_false_iff, Bool.not_eq_true', Bool.not_eq_false', beq_iff_eq, bne_iff_ne, ne_eq, Decidable.not_not] at hc10
                  refine CW.seq (fun K39 h39 => ?_)
                  refine CW.region ?_
                  refine r_buildQ rfl Try.underlying27 Try.zeroValue27 rfl (pl := [(0, 1), (1, 1), (2, 2), (4, 1), (5, 1)]) (by intro w; simp [go_sem]) (qs := []) (cs := [.bool false, .int .i64 0, .int .i64 0, .int .i64 0, .int .i64 0, .slice none 0 0]) trivial rfl ?_
                  refine s_storeA H Try.sizeOf27 rfl (by simp only [upd_get, ev, Nat.reduceEqDiff, ↓reduceIte] <;> rfl) (by simp only [cellsL, agg, List.toList_toArray, Row.cells, Cm.L, Rq.L, Tp.L, Bat.L] <;> rfl) (by rfl) (by first | rfl | assumption | exact Rs.oneC (by first | assumption | exact SH.rsR H (by (repeat first | exact At.here | apply At.there); done) | exact SH.rsO H (by (repeat first | exact At.here | apply At.there); done) | exact (Rs.nil : Rs Non _ _ _)) | (simp only [List.all_cons, List.all_nil, Bool.and_true, Bool.and_eq_true, Row.cells, Cm.L, Rq.L, Tp.L, Bat.L]; (repeat' constructor) <;> first | rfl | assumption | exact Rs.oneC (by first | assumption | exact SH.rsR H (by (repeat first | exact At.here | apply At.there); done) | exact SH.rsO H (by (repeat first | exact At.here | apply At.there); done) | exact (Rs.nil : Rs Non _ _ _)))) (by (repeat first | exact At.here | apply At.there); done) (by first | (simp; done) | decide | (show _ ≤ _; decide)) ?_
                  clear H
                  intro w30_1 H
                  try dsimp only [replC, List.cons_append, List.nil_append, List.append_nil, agg, cellsL, Value.cells, List.toList_toArray, List.set_cons_zero, List.set_cons_succ, spliceL, List.take_succ_cons, List.take_zero, List.drop_succ_cons, List.drop_zero, List.length_cons, List.length_nil, Nat.reduceAdd, Row.cells, Cm.L, Rq.L, Tp.L, Bat.L] at H
                  refine r_assign rfl ?_
                  refine r_assign rfl ?_
                  refine LW.nil ?_
                  refine thenE_norm ?_
                  refine cut (K := K39) [4, 5, 6] (fun σ => ?_)
                  simp only [setL, keepE, upd_get, ev, Nat.reduceEqDiff, ↓reduceIte]
                  refine h39 _ _ ?_; clear h39; try clear K39
                  refine CW.ret (thenE_ret (retC3 Try.results43 (by simp only [upd_get, ev, Nat.reduceEqDiff, ↓reduceIte] <;> rfl) (by simp only [upd_get, ev, Nat.reduceEqDiff, ↓reduceIte] <;> rfl) (by simp only [upd_get, ev, Nat.reduceEqDiff, ↓reduceIte] <;> rfl) Try.isAgg27 Try.sizeOf27 (by exact SH.cells H (by (repeat first | exact At.here | apply At.there); done)) (by rfl) ?_))
                  rw [hget2, bindR, hrl2, if_pos rfl, chkR, if_neg (by simpa using hc10)]
                  exact ⟨_, none, rfl, nil_small, SH.give (H.addO (α := Rq) 32) (by repeat first | exact List.Sublist.refl _ | exact List.nil_sublist _ | apply List.Sublist.cons_cons | apply List.Sublist.cons) ⟨trivial, trivial⟩⟩
                · try simp only [decide_eq_true_eq, decide_eq_false_iff_not, Bool.and_eq_true, Bool.or_eq_true, Bool.and_eq_false_iff, Bool.or_eq_false_iff, Bool.not_eq_true', Bool.not_eq_false', beq_iff_eq, bne_iff_ne, ne_eq, Decidable.not_not] at hc10
                  refine CW.skip ?_
                  refine thenE_norm (h37 _ _ ?_); clear h37; try clear K37
                  refine CW.seq (fun K40 h40 => ?_)
                  refine CW.region ?_
                  refine r_loadA rfl Try.isAgg27 Try.sizeOf27 rfl (by first | exact SH.cells H (by (repeat first | exact At.here | apply At.there); done)) (by rfl) ?_
                  refine r_move rfl ?_
                  refine s_storeA H Try.sizeOf27 rfl (by simp only [upd_get, ev, Nat.reduceEqDiff, ↓reduceIte] <;> rfl) (by simp only [cellsL, agg, List.toList_toArray, Row.cells, Cm.L, Rq.L, Tp.L, Bat.L] <;> rfl) (by rfl) (by first | rfl | assumption | exact Rs.oneC (by first | assumption | exact SH.rsR H (by (repeat first | exact At.here | apply At.there); done) | exact SH.rsO H (by (repeat first | exact At.here | apply At.there); done) | exact (Rs.nil : Rs Non _ _ _)) | (simp only [List.all_cons, List.all_nil, Bool.and_true, Bool.and_eq_true, Row.cells, Cm.L, Rq.L, Tp.L, Bat.L]; (repeat' constructor) <;> first | rfl | assumption | exact Rs.oneC (by first | assumption | exact SH.rsR H (by (repeat first | exact At.here | apply At.there); done) | exact SH.rsO H (by (repeat first | exact At.here | apply At.there); done) | exact (Rs.nil : Rs Non _ _ _)))) (by (repeat first | exact At.here | apply At.there); done) (by first | (simp; done) | decide | (show _ ≤ _; decide)) ?_
                  clear H
                  intro w31_2 H
                  try dsimp only [replC, List.cons_append, List.nil_append, List.append_nil, agg, cellsL, Value.cells, List.toList_toArray, List.set_cons_zero, List.set_cons_succ, spliceL, List.take_succ_cons, List.take_zero, List.drop_succ_cons, List.drop_zero, List.length_cons, List.length_nil, Nat.reduceAdd, Row.cells, Cm.L, Rq.L, Tp.L, Bat.L] at H
                  refine r_assign rfl ?_
                  refine r_assign rfl ?_
                  refine LW.nil ?_
                  refine thenE_norm ?_
                  refine cut (K := K40) [4, 5, 6] (fun σ => ?_)
                  simp only [setL, keepE, upd_get, ev, Nat.reduceEqDiff, ↓reduceIte]
                  refine h40 _ _ ?_; clear h40; try clear K40
                  refine CW.ret (retC3 Try.results43 (by simp only [upd_get, ev, Nat.reduceEqDiff, ↓reduceIte] <;> rfl) (by simp only [upd_get, ev, Nat.reduceEqDiff, ↓reduceIte] <;> rfl) (by simp only [upd_get, ev, Nat.reduceEqDiff, ↓reduceIte] <;> rfl) Try.isAgg27 Try.sizeOf27 (by exact SH.cells H (by (repeat first | exact At.here | apply At.there); done)) (by rfl) ?_)
                  rw [hget2, bindR, hrl2, if_pos rfl, chkR, if_pos (by simpa using hc10)]
                  exact ⟨_, _, rfl, hsm, SH.give H (by repeat first | exact List.Sublist.refl _ | exact List.nil_sublist _ | apply List.Sublist.cons_cons | apply List.Sublist.cons) ⟨trivial, trivial⟩⟩
set_option maxHeartbeats 4000000 in
theorem nums_c {F : Nat → Prop} {v : Value} {xs : List UInt8} (at_ n : Int) (w : World) (hv : Rs F w v xs) (h0 : 0 ≤ n) (h4 : n ≤ 4) :
    Calls Try.prog 88 #[v, .int .i64 at_, .int .i64 n] w fun e w' => ∃ v' g, e = .returned (.tuple #[v', .int .i64 (numsR n.toNat [] xs at_).2.1, .int .i64 (numsR n.toNat [] xs at_).2.2]) ∧ SH Non Non w w' [.O 3 v' (numsR n.toNat [] xs at_).1 g] := by
  have H := (SH.start w).arg hv
  obtain ⟨R4, hR⟩ : ∃ R, R = numsR n.toNat [] xs at_ := ⟨_, rfl⟩
  refine calls_of_CW Try.func88 rfl Try.ntmps88 (Nat.le_of_ble_eq_true rfl) ?_
  simp only [argE, argFrom, Nat.reduceAdd]
  refine CW.seq (fun K1 h1 => ?_)
  refine CW.region ?_
  refine r_assign rfl ?_
  refine r_assign rfl ?_
  refine r_assign rfl ?_
  refine LW.nil ?_
  refine thenE_norm (h1 _ _ ?_); clear h1; try clear K1
  refine CW.seq (fun K2 h2 => ?_)
  refine CW.region ?_
  refine r_assign rfl ?_
  refine LW.nil ?_
  refine thenE_norm (h2 _ _ ?_); clear h2; try clear K2
  refine CW.seq (fun K3 h3 => ?_)
  refine CW.seq (fun K4 h4 => ?_)
  refine CW.region ?_
  refine r_assign rfl ?_
  refine LW.nil ?_
  refine thenE_norm (h4 _ _ ?_); clear h4; try clear K4
  refine CW.block ?_
  refine CW.loopR [0, 2] [1, 9, 10] (fun m vs w' => ∃ (i : Nat) (u : Value) (g : Option Nat) (p : Int) (l : List Int), vs = [.int .i64 p, u, .int .i64 i] ∧ i ≤ n ∧ l.length = i ∧ m = n.toNat - i ∧ R4 = numsR (n.toNat - i) l xs p ∧ SH Non Any w w' [.R (Old w) v xs, .O 3 u l g]) (n.toNat) ?_ ?_
  · exact ⟨0, .slice none 0 0, none, at_, [], rfl, by omega, rfl, by omega, hR, H.addO (α := Int) 3⟩
  try clear H
  rintro n1 vs1 wL1 σ ⟨i, u, g, p, l, rfl, hi, hll, rfl, hrel, H⟩
  simp only [setL, keepE, upd_get, ev, Nat.reduceEqDiff, ↓reduceIte]
  refine CW.seq (fun K5 h5 => ?_)
  refine CW.seq (fun K6 h6 => ?_)
  refine CW.region ?_
  refine r_move rfl ?_
  refine r_move rfl ?_
  refine r_lss rfl rfl rfl ?_
  refine LW.nil ?_
  refine thenE_norm (h6 _ _ ?_); clear h6; try clear K6
  refine CW.cond rfl (fun hc1 => ?_) (fun hc1 => ?_)
  · try simp only [decide_eq_true_eq, decide_eq_false_iff_not, Bool.and_eq_true, Bool.or_eq_true, Bool.and_eq_false_iff, Bool.or_eq_false_iff, Bool.not_eq_true', Bool.not_eq_false', beq_iff_eq, bne_iff_ne, ne_eq, Decidable.not_not] at hc1
    refine CW.skip ?_
    refine thenE_norm (h5 _ _ ?_); clear h5; try clear K5
    refine CW.seq (fun K7 h7 => ?_)
    refine CW.block ?_
    refine CW.seq (fun K8 h8 => ?_)
    have hk : n.toNat - i = (n.toNat - (i + 1)) + 1 := by omega
    rw [hk, nums_s] at hrel
    refine CW.region ?_
    refine r_move rfl ?_
    refine r_move rfl ?_
    refine r_call rfl Try.call117 (by simp only [List.map_cons, List.map_nil, List.map_toArray, List.toList_toArray, upd_get, ev, Nat.reduceEqDiff, ↓reduceIte] <;> rfl) (NumR_c _ _ (Rs.bs (by first | assumption | exact SH.rsR H (by (repeat first | exact At.here | apply At.there); done) | exact SH.rsO H (by (repeat first | exact At.here | apply At.there); done) | exact (Rs.nil : Rs Non _ _ _)))) ?_
    rintro _ _ ⟨rfl, rfl⟩
    refine ⟨_, rfl, ?_⟩
    refine r_move rfl ?_
    refine r_extract rfl (by simp only [upd_get, ev, Nat.reduceEqDiff, ↓reduceIte] <;> rfl) (by simp only [List.getElem?_toArray, List.getElem?_cons_zero, List.getElem?_cons_succ] <;> rfl) ?_
    refine r_extract rfl (by simp only [upd_get, ev, Nat.reduceEqDiff, ↓reduceIte] <;> rfl) (by simp only [List.getElem?_toArray, List.getElem?_cons_zero, List.getElem?_cons_succ] <;> rfl) ?_
    refine r_extract rfl (by simp only [upd_get, ev, Nat.reduceEqDiff, ↓reduceIte] <;> rfl) (by simp only [List.getElem?_toArray, List.getElem?_cons_zero, List.getElem?_cons_succ] <;> rfl) ?_
    refine r_assign rfl ?_
    refine r_assign rfl ?_
    refine r_assign rfl ?_
    refine LW.nil ?_
    refine thenE_norm ?_
    refine cut (K := K8) [0, 2, 9, 10, 11, 12, 13] (fun σ => ?_)
    simp only [setL, keepE, upd_get, ev, Nat.reduceEqDiff, ↓reduceIte]
    refine h8 _ _ ?_; clear h8; try clear K8
    refine CW.seq (fun K9 h9 => ?_)
    refine CW.seq (fun K10 h10 => ?_)
    refine CW.region ?_
    refine r_move rfl ?_
    refine r_neq rfl rfl rfl ?_
    refine LW.nil ?_
    refine thenE_norm (h10 _ _ ?_); clear h10; try clear K10
    refine CW.cond rfl (fun hc2 => ?_) (fun hc2 => ?_)
    · try simp only [decide_eq_true_eq, decide_eq_false_iff_not, Bool.and_eq_true, Bool.or_eq_true, Bool.and_eq_false_iff, Bool.or_eq_false_iff, Bool.not_eq_true', Bool.not_eq_false', beq_iff_eq, bne_iff_ne, ne_eq, Decidable.not_not] at hc2
      refine CW.seq (fun K11 h11 => ?_)
      refine CW.region ?_
      refine r_move rfl ?_
      refine r_assign rfl ?_
      refine r_assign rfl ?_
      refine r_assign rfl ?_
      refine LW.nil ?_
      refine thenE_norm (h11 _ _ ?_); clear h11; try clear K11
      refine CW.ret (thenE_ret (blockE_ret (thenE_ret (thenE_ret (blockE_ret (thenE_ret (ret3 Try.results88 (by simp only [upd_get, ev, Nat.reduceEqDiff, ↓reduceIte]; rfl) (by simp only [upd_get, ev, Nat.reduceEqDiff, ↓reduceIte]; rfl) (by simp only [upd_get, ev, Nat.reduceEqDiff, ↓reduceIte]; rfl) ?_)))))))
      rw [bindR, if_neg hc2] at hrel
      rw [← hR, hrel]
      exact ⟨_, none, rfl, SH.give (H.addO (α := Int) 3) (by repeat first | exact List.Sublist.refl _ | exact List.nil_sublist _ | apply List.Sublist.cons_cons | apply List.Sublist.cons) ⟨trivial, trivial⟩⟩
    · try simp only [decide_eq_true_eq, decide_eq_false_iff_not, Bool.and_eq_true, Bool.or_eq_true, Bool.and_eq_false_iff, Bool.or_eq_false_iff, Bool.not_eq_true', Bool.not_eq_false', beq_iff_eq, bne_iff_ne, ne_eq, Decidable.not_not] at hc2
      refine CW.skip ?_
      refine thenE_norm (h9 _ _ ?_); clear h9; try clear K9
      refine CW.seq (fun K12 h12 => ?_)
      refine CW.region ?_
      refine r_move rfl ?_
      refine r_move rfl ?_
      refine r_buildSlice rfl Try.underlying41 Try.sizeOf3 Try.zeroValue3 rfl rfl rfl (by simp only [List.map_cons, List.map_nil, List.toList_toArray, List.foldl_cons, List.foldl_nil, List.replicate_succ, List.replicate_zero, List.set_cons_zero, List.set_cons_succ, upd_get, ev, Nat.reduceEqDiff, ↓reduceIte] <;> rfl) ?_
      intro b8_2 w8_2 hb8_2 hs8_2 hE8_2 hB8_2
      replace H := SH.call H (SH.fromB hE8_2 hb8_2 hs8_2 hB8_2)
      clear hb8_2 hs8_2 hE8_2 hB8_2
      try dsimp only [replC, List.cons_append, List.nil_append, List.append_nil, agg, cellsL, Value.cells, List.toList_toArray, List.set_cons_zero, List.set_cons_succ, spliceL, List.take_succ_cons, List.take_zero, List.drop_succ_cons, List.drop_zero, List.length_cons, List.length_nil, Nat.reduceAdd, Row.cells, Cm.L, Rq.L, Tp.L, Bat.L] at H
      replace H := SH.row (b := b8_2) (xs := ([(numM xs p).1] : List Int)) (n := 1) (cap := 1) H (by (repeat first | exact At.here | apply At.there); done) (by rfl) (by intro x hx; first | rfl | (simp at hx; done) | (simp only [List.mem_cons, List.not_mem_nil, or_false] at hx; rcases hx with rfl <;> first | rfl | exact (by first | rfl | assumption | exact Rs.oneC (by first | assumption | exact SH.rsR H (by (repeat first | exact At.here | apply At.there); done) | exact SH.rsO H (by (repeat first | exact At.here | apply At.there); done) | exact (Rs.nil : Rs Non _ _ _)) | (simp only [List.all_cons, List.all_nil, Bool.and_true, Bool.and_eq_true, Row.cells, Cm.L, Rq.L, Tp.L, Bat.L]; (repeat' constructor) <;> first | rfl | assumption | exact Rs.oneC (by first | assumption | exact SH.rsR H (by (repeat first | exact At.here | apply At.there); done) | exact SH.rsO H (by (repeat first | exact At.here | apply At.there); done) | exact (Rs.nil : Rs Non _ _ _)))))) (by rfl) rfl (by decide)
      try dsimp only [replC, List.cons_append, List.nil_append, List.append_nil, agg, cellsL, Value.cells, List.toList_toArray, List.set_cons_zero, List.set_cons_succ, spliceL, List.take_succ_cons, List.take_zero, List.drop_succ_cons, List.drop_zero, List.length_cons, List.length_nil, Nat.reduceAdd, Row.cells, Cm.L, Rq.L, Tp.L, Bat.L] at H
      refine s_append H rfl Try.underlying41 Try.underlying41 Try.type3 rfl (by simp only [upd_get, ev, Nat.reduceEqDiff, ↓reduceIte] <;> rfl) (by simp only [upd_get, ev, Nat.reduceEqDiff, ↓reduceIte] <;> rfl) (by (repeat first | exact At.here | apply At.there); done) (by first | assumption | exact SH.rsR H (by (repeat first | exact At.here | apply At.there); done) | exact SH.rsO H (by (repeat first | exact At.here | apply At.there); done) | exact (Rs.nil : Rs Non _ _ _)) (by rfl) (by rfl) (by first | omega | (simp only [Try.t3, List.length_append, List.length_cons, List.length_nil, List.length_map, maxLen]; omega) | (simp [Try.t3, maxLen]; omega)) (by first | omega | (simp only [Try.t3, List.length_append, List.length_cons, List.length_nil, List.length_map, maxLen]; omega) | (simp [Try.t3, maxLen]; omega)) ?_
      clear H
      intro v8_3 w8_3 g8_3 H hN8_3
      try dsimp only [replC, List.cons_append, List.nil_append, List.append_nil] at H
      refine r_assign rfl ?_
      refine LW.nil ?_
      refine thenE_norm (h12 _ _ ?_); clear h12; try clear K12
      refine CW.region ?_
      refine r_move rfl ?_
      refine r_assign rfl ?_
      refine LW.nil ?_
      refine blockE_norm ?_
      refine thenE_norm (h7 _ _ ?_); clear h7; try clear K7
      refine CW.region ?_
      refine r_move rfl ?_
      refine r_add rfl rfl rfl (wr_i64 (by omega) (by omega)) ?_
      refine r_assign rfl ?_
      refine LW.nil ?_
      refine thenE_norm ⟨rfl, ?_⟩
      rw [bindR, if_pos hc2] at hrel
      exact ⟨n.toNat - (i + 1), by omega, i + 1, _, _, _, _, rfl, by omega, by simp [hll], rfl, hrel, SH.sel H [0, 1] (by decide) rfl⟩
  · try simp only [decide_eq_true_eq, decide_eq_false_iff_not, Bool.and_eq_true, Bool.or_eq_true, Bool.and_eq_false_iff, Bool.or_eq_false_iff, Bool.not_eq_true', Bool.not_eq_false', beq_iff_eq, bne_iff_ne, ne_eq, Decidable.not_not] at hc1
    refine CW.exit (thenE_exit (thenE_exit (blockE_hit ?_)))
    refine thenE_norm (h3 _ _ ?_); clear h3; try clear K3
    refine CW.seq (fun K13 h13 => ?_)
    refine CW.region ?_
    refine r_move rfl ?_
    refine r_move rfl ?_
    refine r_assign rfl ?_
    refine r_assign rfl ?_
    refine r_assign rfl ?_
    refine LW.nil ?_
    refine thenE_norm ?_
    refine cut (K := K13) [6, 7, 8] (fun σ => ?_)
    simp only [setL, keepE, upd_get, ev, Nat.reduceEqDiff, ↓reduceIte]
    refine h13 _ _ ?_; clear h13; try clear K13
    refine CW.ret (ret3 Try.results88 (by simp only [upd_get, ev, Nat.reduceEqDiff, ↓reduceIte]; rfl) (by simp only [upd_get, ev, Nat.reduceEqDiff, ↓reduceIte]; rfl) (by simp only [upd_get, ev, Nat.reduceEqDiff, ↓reduceIte]; rfl) ?_)
    obtain rfl : n = i := by omega
    rw [← hR, hrel, show (i : Int).toNat - i = 0 by omega]
    exact ⟨_, _, rfl, (SH.give (SH.sel H [1] (by decide) rfl) (List.Sublist.refl _) (by repeat first | exact trivial | refine ⟨trivial, ?_⟩))⟩
set_option maxHeartbeats 16000000 in
theorem GetBatR_c {F : Nat → Prop} {v : Value} {xs : List UInt8} (at_ : Int) (w : World) (hv : Rs F w v xs) :
    Calls Try.prog 44 #[v, .int .i64 at_] w fun e w' => ∃ v' g, e = .returned (.tuple #[agg (⟨(getBat xs at_).1.1, (getBat xs at_).1.2.1, ⟨(getBat xs at_).1.2.2.1.view, (getBat xs at_).1.2.2.1.slot⟩, (getBat xs at_).1.2.2.2.1, v'⟩ : Bat), .int .i64 (getBat xs at_).2.1, .int .i64 (getBat xs at_).2.2]) ∧ SH Non Non w w' [.O 32 v' (getBat xs at_).1.2.2.2.2 g] := by
  have H := (SH.start w).arg hv
  refine calls_of_CW Try.func44 rfl Try.ntmps44 (Nat.le_of_ble_eq_true rfl) ?_
  simp only [argE, argFrom, Nat.reduceAdd]
  refine CW.seq (fun K1 h1 => ?_)
  refine CW.region ?_
  refine s_alloc (cs := [.bool false, .int .i64 0, .int .i64 0, .int .i64 0, .int .i64 0, .slice none 0 0]) H rfl Try.zeroValue27 rfl ?_
  clear H
  intro b0_0 w0_0 H
  try dsimp only [replC, List.cons_append, List.nil_append, List.append_nil, agg, cellsL, Value.cells, List.toList_toArray, List.set_cons_zero, List.set_cons_succ, spliceL, List.take_succ_cons, List.take_zero, List.drop_succ_cons, List.drop_zero, List.length_cons, List.length_nil, Nat.reduceAdd, Row.cells, Cm.L, Rq.L, Tp.L, Bat.L] at H
  refine r_assign rfl ?_
  refine r_assign rfl ?_
  refine LW.nil ?_
  refine thenE_norm (h1 _ _ ?_); clear h1; try clear K1
  refine CW.seq (fun K2 h2 => ?_)
  refine CW.region ?_
  refine r_move rfl ?_
  refine r_move rfl ?_
  refine r_call rfl Try.call87 (by simp only [List.map_cons, List.map_nil, List.map_toArray, List.toList_toArray, upd_get, ev, Nat.reduceEqDiff, ↓reduceIte] <;> rfl) (ByteR_c _ _ (Rs.bs (by first | assumption | exact SH.rsR H (by (repeat first | exact At.here | apply At.there); done) | exact SH.rsO H (by (repeat first | exact At.here | apply At.there); done) | exact (Rs.nil : Rs Non _ _ _)))) ?_
  rintro _ _ ⟨rfl, rfl⟩
  refine ⟨_, rfl, ?_⟩
  refine r_move rfl ?_
  refine r_extract rfl (by simp only [upd_get, ev, Nat.reduceEqDiff, ↓reduceIte] <;> rfl) (by simp only [List.getElem?_toArray, List.getElem?_cons_zero, List.getElem?_cons_succ] <;> rfl) ?_
  refine r_extract rfl (by simp only [upd_get, ev, Nat.reduceEqDiff, ↓reduceIte] <;> rfl) (by simp only [List.getElem?_toArray, List.getElem?_cons_zero, List.getElem?_cons_succ] <;> rfl) ?_
  refine r_extract rfl (by simp only [upd_get, ev, Nat.reduceEqDiff, ↓reduceIte] <;> rfl) (by simp only [List.getElem?_toArray, List.getElem?_cons_zero, List.getElem?_cons_succ] <;> rfl) ?_
  refine r_assign rfl ?_
  refine r_assign rfl ?_
  refine r_assign rfl ?_
  refine LW.nil ?_
  refine thenE_norm ?_
  refine cut (K := K2) [0, 1, 4, 7, 8] (fun σ => ?_)
  simp only [setL, keepE, upd_get, ev, Nat.reduceEqDiff, ↓reduceIte]
  refine h2 _ _ ?_; clear h2; try clear K2
  refine CW.seq (fun K3 h3 => ?_)
  refine CW.block ?_
  refine CW.seq (fun K4 h4 => ?_)
  refine CW.region ?_
  refine r_move rfl ?_
  refine r_neq rfl rfl rfl ?_
  refine r_assign rfl ?_
  refine LW.nil ?_
  refine thenE_norm (h4 _ _ ?_); clear h4; try clear K4
  refine CW.cond rfl (fun hc1 => ?_) (fun hc1 => ?_)
  · try simp only [decide_eq_true_eq, decide_eq_false_iff_not, Bool.and_eq_true, Bool.or_eq_true, Bool.and_eq_false_iff, Bool.or_eq_false_iff, Bool.not_eq_true', Bool.not_eq_false', beq_iff_eq, bne_iff_ne, ne_eq, Decidable.not_not] at hc1
    refine CW.seq (fun K5 h5 => ?_)
    refine CW.region ?_
    refine r_buildQ rfl Try.underlying27 Try.zeroValue27 rfl (pl := [(0, 1), (1, 1), (2, 2), (4, 1), (5, 1)]) (by intro w; simp [go_sem]) (qs := []) (cs := [.bool false, .int .i64 0, .int .i64 0, .int .i64 0, .int .i64 0, .slice none 0 0]) trivial rfl ?_
    refine r_move rfl ?_
    refine s_storeA H Try.sizeOf27 rfl (by simp only [upd_get, ev, Nat.reduceEqDiff, ↓reduceIte] <;> rfl) (by simp only [cellsL, agg, List.toList_toArray, Row.cells, Cm.L, Rq.L, Tp.L, Bat.L] <;> rfl) (by rfl) (by first | rfl | assumption | exact Rs.oneC (by first | assumption | exact SH.rsR H (by (repeat first | exact At.here | apply At.there); done) | exact SH.rsO H (by (repeat first | exact At.here | apply At.there); done) | exact (Rs.nil : Rs Non _ _ _)) | (simp only [List.all_cons, List.all_nil, Bool.and_true, Bool.and_eq_true, Row.cells, Cm.L, Rq.L, Tp.L, Bat.L]; (repeat' constructor) <;> first | rfl | assumption | exact Rs.oneC (by first | assumption | exact SH.rsR H (by (repeat first | exact At.here | apply At.there); done) | exact SH.rsO H (by (repeat first | exact At.here | apply At.there); done) | exact (Rs.nil : Rs Non _ _ _)))) (by (repeat first | exact At.here | apply At.there); done) (by first | (simp; done) | decide | (show _ ≤ _; decide)) ?_
    clear H
    intro w3_2 H
    try dsimp only [replC, List.cons_append, List.nil_append, List.append_nil, agg, cellsL, Value.cells, List.toList_toArray, List.set_cons_zero, List.set_cons_succ, spliceL, List.take_succ_cons, List.take_zero, List.drop_succ_cons, List.drop_zero, List.length_cons, List.length_nil, Nat.reduceAdd, Row.cells, Cm.L, Rq.L, Tp.L, Bat.L] at H
    refine r_assign rfl ?_
    refine r_assign rfl ?_
    refine LW.nil ?_
    refine thenE_norm ?_
    refine cut (K := K5) [4, 5, 6] (fun σ => ?_)
    simp only [setL, keepE, upd_get, ev, Nat.reduceEqDiff, ↓reduceIte]
    refine h5 _ _ ?_; clear h5; try clear K5
    refine CW.ret (blockE_ret (thenE_ret (retC3 Try.results44 (by simp only [upd_get, ev, Nat.reduceEqDiff, ↓reduceIte] <;> rfl) (by simp only [upd_get, ev, Nat.reduceEqDiff, ↓reduceIte] <;> rfl) (by simp only [upd_get, ev, Nat.reduceEqDiff, ↓reduceIte] <;> rfl) Try.isAgg27 Try.sizeOf27 (by exact SH.cells H (by (repeat first | exact At.here | apply At.there); done)) (by rfl) ?_)))
    rw [getBat, bindR, if_neg hc1]
    exact ⟨_, none, rfl, SH.give (H.addO (α := Rq) 32) (by repeat first | exact List.Sublist.refl _ | exact List.nil_sublist _ | apply List.Sublist.cons_cons | apply List.Sublist.cons) ⟨trivial, trivial⟩⟩
  · try simp only [decide_eq_true_eq, decide_eq_false_iff_not, Bool.and_eq_true, Bool.or_eq_true, Bool.and_eq_false_iff, Bool.or_eq_false_iff, Bool.not_eq_true', Bool.not_eq_false', beq_iff_eq, bne_iff_ne, ne_eq, Decidable.not_not] at hc1
    refine CW.seq (fun K6 h6 => ?_)
    refine CW.region ?_
    refine r_move rfl ?_
    refine r_gtr rfl rfl rfl ?_
    refine r_assign rfl ?_
    refine LW.nil ?_
    refine thenE_norm (h6 _ _ ?_); clear h6; try clear K6
    refine CW.cond rfl (fun hc2 => ?_) (fun hc2 => ?_)
    · try simp only [decide_eq_true_eq, decide_eq_false_iff_not, Bool.and_eq_true, Bool.or_eq_true, Bool.and_eq_false_iff, Bool.or_eq_false_iff, Bool.not_eq_true', Bool.not_eq_false', beq_iff_eq, bne_iff_ne, ne_eq, Decidable.not_not] at hc2
      refine CW.seq (fun K7 h7 => ?_)
      refine CW.region ?_
      refine r_buildQ rfl Try.underlying27 Try.zeroValue27 rfl (pl := [(0, 1), (1, 1), (2, 2), (4, 1), (5, 1)]) (by intro w; simp [go_sem]) (qs := []) (cs := [.bool false, .int .i64 0, .int .i64 0, .int .i64 0, .int .i64 0, .slice none 0 0]) trivial rfl ?_
      refine s_storeA H Try.sizeOf27 rfl (by simp only [upd_get, ev, Nat.reduceEqDiff, ↓reduceIte] <;> rfl) (by simp only [cellsL, agg, List.toList_toArray, Row.cells, Cm.L, Rq.L, Tp.L, Bat.L] <;> rfl) (by rfl) (by first | rfl | assumption | exact Rs.oneC (by first | assumption | exact SH.rsR H (by (repeat first | exact At.here | apply At.there); done) | exact SH.rsO H (by (repeat first | exact At.here | apply At.there); done) | exact (Rs.nil : Rs Non _ _ _)) | (simp only [List.all_cons, List.all_nil, Bool.and_true, Bool.and_eq_true, Row.cells, Cm.L, Rq.L, Tp.L, Bat.L]; (repeat' constructor) <;> first | rfl | assumption | exact Rs.oneC (by first | assumption | exact SH.rsR H (by (repeat first | exact At.here | apply At.there); done) | exact SH.rsO H (by (repeat first | exact At.here | apply At.there); done) | exact (Rs.nil : Rs Non _ _ _)))) (by (repeat first | exact At.here | apply At.there); done) (by first | (simp; done) | decide | (show _ ≤ _; decide)) ?_
      clear H
      intro w5_1 H
      try dsimp only [replC, List.cons_append, List.nil_append, List.append_nil, agg, cellsL, Value.cells, List.toList_toArray, List.set_cons_zero, List.set_cons_succ, spliceL, List.take_succ_cons, List.take_zero, List.drop_succ_cons, List.drop_zero, List.length_cons, List.length_nil, Nat.reduceAdd, Row.cells, Cm.L, Rq.L, Tp.L, Bat.L] at H
      refine r_assign rfl ?_
      refine r_assign rfl ?_
      refine LW.nil ?_
      refine thenE_norm ?_
      refine cut (K := K7) [4, 5, 6] (fun σ => ?_)
      simp only [setL, keepE, upd_get, ev, Nat.reduceEqDiff, ↓reduceIte]
      refine h7 _ _ ?_; clear h7; try clear K7
      refine CW.ret (blockE_ret (thenE_ret (retC3 Try.results44 (by simp only [upd_get, ev, Nat.reduceEqDiff, ↓reduceIte] <;> rfl) (by simp only [upd_get, ev, Nat.reduceEqDiff, ↓reduceIte] <;> rfl) (by simp only [upd_get, ev, Nat.reduceEqDiff, ↓reduceIte] <;> rfl) Try.isAgg27 Try.sizeOf27 (by exact SH.cells H (by (repeat first | exact At.here | apply At.there); done)) (by rfl) ?_)))
      rw [getBat, bindR, if_pos hc1, if_pos hc2]
      exact ⟨_, none, rfl, SH.give (H.addO (α := Rq) 32) (by repeat first | exact List.Sublist.refl _ | exact List.nil_sublist _ | apply List.Sublist.cons_cons | apply List.Sublist.cons) ⟨trivial, trivial⟩⟩
    · try simp only [decide_eq_true_eq, decide_eq_false_iff_not, Bool.and_eq_true, Bool.or_eq_true, Bool.and_eq_false_iff, Bool.or_eq_false_iff, Bool.not_eq_true', Bool.not_eq_false', beq_iff_eq, bne_iff_ne, ne_eq, Decidable.not_not] at hc2
      refine CW.seq (fun K8 h8 => ?_)
      refine CW.region ?_
      refine r_move rfl ?_
      refine r_eql rfl rfl rfl ?_
      refine r_assign rfl ?_
      refine LW.nil ?_
      refine thenE_norm ?_
      refine cut (K := K8) [0, 1, 4, 32] (fun σ => ?_)
      simp only [setL, keepE, upd_get, ev, Nat.reduceEqDiff, ↓reduceIte]
      refine h8 _ _ ?_; clear h8; try clear K8
      refine CW.cond rfl (fun hc3 => ?_) (fun hc3 => ?_)
      · try simp only [decide_eq_true_eq, decide_eq_false_iff_not, Bool.and_eq_true, Bool.or_eq_true, Bool.and_eq_false_iff, Bool.or_eq_false_iff, Bool.not_eq_true', Bool.not_eq_false', beq_iff_eq, bne_iff_ne, ne_eq, Decidable.not_not] at hc3
        refine CW.seq (fun K9 h9 => ?_)
        refine CW.region ?_
        refine r_buildQ rfl Try.underlying27 Try.zeroValue27 rfl (pl := [(0, 1), (1, 1), (2, 2), (4, 1), (5, 1)]) (by intro w; simp [go_sem]) (qs := [(0, [_])]) (cs := [_, .int .i64 0, .int .i64 0, .int .i64 0, .int .i64 0, .slice none 0 0]) ⟨rfl, cells_one (by simp only [upd_get, ev, Nat.reduceEqDiff, ↓reduceIte] <;> rfl) (by first | rfl | exact Rs.oneC (by first | assumption | exact SH.rsR H (by (repeat first | exact At.here | apply At.there); done) | exact SH.rsO H (by (repeat first | exact At.here | apply At.there); done) | exact (Rs.nil : Rs Non _ _ _))), trivial⟩ rfl ?_
        refine r_move rfl ?_
        refine s_storeA H Try.sizeOf27 rfl (by simp only [upd_get, ev, Nat.reduceEqDiff, ↓reduceIte] <;> rfl) (by simp only [cellsL, agg, List.toList_toArray, Row.cells, Cm.L, Rq.L, Tp.L, Bat.L] <;> rfl) (by rfl) (by first | rfl | assumption | exact Rs.oneC (by first | assumption | exact SH.rsR H (by (repeat first | exact At.here | apply At.there); done) | exact SH.rsO H (by (repeat first | exact At.here | apply At.there); done) | exact (Rs.nil : Rs Non _ _ _)) | (simp only [List.all_cons, List.all_nil, Bool.and_true, Bool.and_eq_true, Row.cells, Cm.L, Rq.L, Tp.L, Bat.L]; (repeat' constructor) <;> first | rfl | assumption | exact Rs.oneC (by first | assumption | exact SH.rsR H (by (repeat first | exact At.here | apply At.there); done) | exact SH.rsO H (by (repeat first | exact At.here | apply At.there); done) | exact (Rs.nil : Rs Non _ _ _)))) (by (repeat first | exact At.here | apply At.there); done) (by first | (simp; done) | decide | (show _ ≤ _; decide)) ?_
        clear H
        intro w7_2 H
        try dsimp only [replC, List.cons_append, List.nil_append, List.append_nil, agg, cellsL, Value.cells, List.toList_toArray, List.set_cons_zero, List.set_cons_succ, spliceL, List.take_succ_cons, List.take_zero, List.drop_succ_cons, List.drop_zero, List.length_cons, List.length_nil, Nat.reduceAdd, Row.cells, Cm.L, Rq.L, Tp.L, Bat.L] at H
        refine r_assign rfl ?_
        refine r_assign rfl ?_
        refine LW.nil ?_
        refine thenE_norm (h9 _ _ ?_); clear h9; try clear K9
        refine CW.ret (blockE_ret (thenE_ret (retC3 Try.results44 (by simp only [upd_get, ev, Nat.reduceEqDiff, ↓reduceIte] <;> rfl) (by simp only [upd_get, ev, Nat.reduceEqDiff, ↓reduceIte] <;> rfl) (by simp only [upd_get, ev, Nat.reduceEqDiff, ↓reduceIte] <;> rfl) Try.isAgg27 Try.sizeOf27 (by exact SH.cells H (by (repeat first | exact At.here | apply At.there); done)) (by rfl) ?_)))
        rw [getBat, bindR, if_pos hc1, if_neg hc2, if_pos hc3]
        exact ⟨_, none, rfl, SH.give (H.addO (α := Rq) 32) (by repeat first | exact List.Sublist.refl _ | exact List.nil_sublist _ | apply List.Sublist.cons_cons | apply List.Sublist.cons) ⟨trivial, trivial⟩⟩
      · try simp only [decide_eq_true_eq, decide_eq_false_iff_not, Bool.and_eq_true, Bool.or_eq_true, Bool.and_eq_false_iff, Bool.or_eq_false_iff, Bool.not_eq_true', Bool.not_eq_false', beq_iff_eq, bne_iff_ne, ne_eq, Decidable.not_not] at hc3
        refine CW.skip ?_
        refine blockE_norm ?_
        refine thenE_norm (h3 _ _ ?_); clear h3; try clear K3
        refine CW.seq (fun K10 h10 => ?_)
        have hget : getBat xs at_ = bindR (numsR 4 []) ZB (fun l => bindR byteM ZB fun n => if 3 < n then failR ZB 4 else bindR (reqsR n.toNat []) ZB fun rs => chkR (mayBat false (l.getD 0 0) ⟨l.getD 1 0, l.getD 2 0⟩ (l.getD 3 0) rs) (false, l.getD 0 0, ⟨l.getD 1 0, l.getD 2 0⟩, l.getD 3 0, rs) ZB) xs (byteM xs at_).2.1 := by
          rw [getBat, bindR, if_pos hc1, if_neg hc2, if_neg hc3]
        generalize (byteM xs at_).2.1 = q at *
        refine CW.region ?_
        refine r_move rfl ?_
        refine r_move rfl ?_
        refine r_call rfl Try.call88 (by simp only [List.map_cons, List.map_nil, List.map_toArray, List.toList_toArray, upd_get, ev, Nat.reduceEqDiff, ↓reduceIte] <;> rfl) (nums_c _ _ _ (by first | assumption | exact SH.rsR H (by (repeat first | exact At.here | apply At.there); done) | exact SH.rsO H (by (repeat first | exact At.here | apply At.there); done) | exact (Rs.nil : Rs Non _ _ _)) (by omega) (by omega)) ?_
        rintro _ w8_2 ⟨v8_2, g8_2, rfl, K⟩
        refine ⟨_, rfl, ?_⟩
        replace H := SH.call H K
        clear K
        try dsimp only [replC, List.cons_append, List.nil_append, List.append_nil] at H
        rw [show (4 : Int).toNat = 4 from rfl] at H ⊢
        refine r_move rfl ?_
        refine r_extract rfl (by simp only [upd_get, ev, Nat.reduceEqDiff, ↓reduceIte] <;> rfl) (by simp only [List.getElem?_toArray, List.getElem?_cons_zero, List.getElem?_cons_succ] <;> rfl) ?_
        refine r_extract rfl (by simp only [upd_get, ev, Nat.reduceEqDiff, ↓reduceIte] <;> rfl) (by simp only [List.getElem?_toArray, List.getElem?_cons_zero, List.getElem?_cons_succ] <;> rfl) ?_
        refine r_extract rfl (by simp only [upd_get, ev, Nat.reduceEqDiff, ↓reduceIte] <;> rfl) (by simp only [List.getElem?_toArray, List.getElem?_cons_zero, List.getElem?_cons_succ] <;> rfl) ?_
        refine r_assign rfl ?_
        refine r_assign rfl ?_
        refine r_assign rfl ?_
        refine LW.nil ?_
        refine thenE_norm ?_
        refine cut (K := K10) [0, 1, 4, 8, 9] (fun σ => ?_)
        simp only [setL, keepE, upd_get, ev, Nat.reduceEqDiff, ↓reduceIte]
        refine h10 _ _ ?_; clear h10; try clear K10
        refine CW.seq (fun K11 h11 => ?_)
        refine CW.seq (fun K12 h12 => ?_)
        refine CW.region ?_
        refine r_move rfl ?_
        refine r_neq rfl rfl rfl ?_
        refine LW.nil ?_
        refine thenE_norm (h12 _ _ ?_); clear h12; try clear K12
        refine CW.cond rfl (fun hc4 => ?_) (fun hc4 => ?_)
        · try simp only [decide_eq_true_eq, decide_eq_false_iff_not, Bool.and_eq_true, Bool.or_eq_true, Bool.and_eq_false_iff, Bool.or_eq_false_iff, Bool.not_eq_true', Bool.not_eq_false', beq_iff_eq, bne_iff_ne, ne_eq, Decidable.not_not] at hc4
          refine CW.seq (fun K13 h13 => ?_)
          refine CW.region ?_
          refine r_buildQ rfl Try.underlying27 Try.zeroValue27 rfl (pl := [(0, 1), (1, 1), (2, 2), (4, 1), (5, 1)]) (by intro w; simp [go_sem]) (qs := []) (cs := [.bool false, .int .i64 0, .int .i64 0, .int .i64 0, .int .i64 0, .slice none 0 0]) trivial rfl ?_
          refine r_move rfl ?_
          refine s_storeA H Try.sizeOf27 rfl (by simp only [upd_get, ev, Nat.reduceEqDiff, ↓reduceIte] <;> rfl) (by simp only [cellsL, agg, List.toList_toArray, Row.cells, Cm.L, Rq.L, Tp.L, Bat.L] <;> rfl) (by rfl) (by first | rfl | assumption | exact Rs.oneC (by first | assumption | exact SH.rsR H (by (repeat first | exact At.here | apply At.there); done) | exact SH.rsO H (by (repeat first | exact At.here | apply At.there); done) | exact (Rs.nil : Rs Non _ _ _)) | (simp only [List.all_cons, List.all_nil, Bool.and_true, Bool.and_eq_true, Row.cells, Cm.L, Rq.L, Tp.L, Bat.L]; (repeat' constructor) <;> first | rfl | assumption | exact Rs.oneC (by first | assumption | exact SH.rsR H (by (repeat first | exact At.here | apply At.there); done) | exact SH.rsO H (by (repeat first | exact At.here | apply At.there); done) | exact (Rs.nil : Rs Non _ _ _)))) (by (repeat first | exact At.here | apply At.there); done) (by first | (simp; done) | decide | (show _ ≤ _; decide)) ?_
          clear H
          intro w10_2 H
          try dsimp only [replC, List.cons_append, List.nil_append, List.append_nil, agg, cellsL, Value.cells, List.toList_toArray, List.set_cons_zero, List.set_cons_succ, spliceL, List.take_succ_cons, List.take_zero, List.drop_succ_cons, List.drop_zero, List.length_cons, List.length_nil, Nat.reduceAdd, Row.cells, Cm.L, Rq.L, Tp.L, Bat.L] at H
          refine r_assign rfl ?_
          refine r_assign rfl ?_
          refine LW.nil ?_
          refine thenE_norm (h13 _ _ ?_); clear h13; try clear K13
          refine CW.ret (thenE_ret (retC3 Try.results44 (by simp only [upd_get, ev, Nat.reduceEqDiff, ↓reduceIte] <;> rfl) (by simp only [upd_get, ev, Nat.reduceEqDiff, ↓reduceIte] <;> rfl) (by simp only [upd_get, ev, Nat.reduceEqDiff, ↓reduceIte] <;> rfl) Try.isAgg27 Try.sizeOf27 (by exact SH.cells H (by (repeat first | exact At.here | apply At.there); done)) (by rfl) ?_))
          rw [hget, bindR, if_neg hc4]
          exact ⟨_, none, rfl, SH.give (H.addO (α := Rq) 32) (by repeat first | exact List.Sublist.refl _ | exact List.nil_sublist _ | apply List.Sublist.cons_cons | apply List.Sublist.cons) ⟨trivial, trivial⟩⟩
        · try simp only [decide_eq_true_eq, decide_eq_false_iff_not, Bool.and_eq_true, Bool.or_eq_true, Bool.and_eq_false_iff, Bool.or_eq_false_iff, Bool.not_eq_true', Bool.not_eq_false', beq_iff_eq, bne_iff_ne, ne_eq, Decidable.not_not] at hc4
          refine CW.skip ?_
          refine thenE_norm (h11 _ _ ?_); clear h11; try clear K11
          refine CW.seq (fun K14 h14 => ?_)
          have hlen := nums_len 4 [] xs q hc4
          obtain ⟨l0, l1, l2, l3, hl4⟩ := four_of hlen
          rw [hl4] at H
          have hrel2 : numsR 4 [] xs q = ([l0, l1, l2, l3], (numsR 4 [] xs q).2.1, 0) := Prod.ext hl4 (Prod.ext rfl hc4)
          generalize (numsR 4 [] xs q).2.1 = p at *
          refine CW.region ?_
          refine r_move rfl ?_
          refine r_move rfl ?_
          refine r_call rfl Try.call87 (by simp only [List.map_cons, List.map_nil, List.map_toArray, List.toList_toArray, upd_get, ev, Nat.reduceEqDiff, ↓reduceIte] <;> rfl) (ByteR_c _ _ (Rs.bs (by first | assumption | exact SH.rsR H (by (repeat first | exact At.here | apply At.there); done) | exact SH.rsO H (by (repeat first | exact At.here | apply At.there); done) | exact (Rs.nil : Rs Non _ _ _)))) ?_
          rintro _ _ ⟨rfl, rfl⟩
          refine ⟨_, rfl, ?_⟩
          refine r_move rfl ?_
          refine r_extract rfl (by simp only [upd_get, ev, Nat.reduceEqDiff, ↓reduceIte] <;> rfl) (by simp only [List.getElem?_toArray, List.getElem?_cons_zero, List.getElem?_cons_succ] <;> rfl) ?_
          refine r_extract rfl (by simp only [upd_get, ev, Nat.reduceEqDiff, ↓reduceIte] <;> rfl) (by simp only [List.getElem?_toArray, List.getElem?_cons_zero, List.getElem?_cons_succ] <;> rfl) ?_
          refine r_extract rfl (by simp only [upd_get, ev, Nat.reduceEqDiff, ↓reduceIte] <;> rfl) (by simp only [List.getElem?_toArray, List.getElem?_cons_zero, List.getElem?_cons_succ] <;> rfl) ?_
          refine r_assign rfl ?_
          refine r_assign rfl ?_
          refine r_assign rfl ?_
          refine LW.nil ?_
          refine thenE_norm ?_
          refine cut (K := K14) [0, 1, 4, 8, 9, 10] (fun σ => ?_)
          simp only [setL, keepE, upd_get, ev, Nat.reduceEqDiff, ↓reduceIte]
          refine h14 _ _ ?_; clear h14; try clear K14
          refine CW.seq (fun K15 h15 => ?_)
          refine CW.seq (fun K16 h16 => ?_)
          refine CW.region ?_
          refine r_move rfl ?_
          refine r_neq rfl rfl rfl ?_
          refine LW.nil ?_
          refine thenE_norm (h16 _ _ ?_); clear h16; try clear K16
          refine CW.cond rfl (fun hc5 => ?_) (fun hc5 => ?_)
          · try simp only [decide_eq_true_eq, decide_eq_false_iff_not, Bool.and_eq_true, Bool.or_eq_true, Bool.and_eq_false_iff, Bool.or_eq_false_iff, Bool.not_eq_true', Bool.not_eq_false', beq_iff_eq, bne_iff_ne, ne_eq, Decidable.not_not] at hc5
            refine CW.seq (fun K17 h17 => ?_)
            refine CW.region ?_
            refine r_buildQ rfl Try.underlying27 Try.zeroValue27 rfl (pl := [(0, 1), (1, 1), (2, 2), (4, 1), (5, 1)]) (by intro w; simp [go_sem]) (qs := []) (cs := [.bool false, .int .i64 0, .int .i64 0, .int .i64 0, .int .i64 0, .slice none 0 0]) trivial rfl ?_
            refine r_move rfl ?_
            refine s_storeA H Try.sizeOf27 rfl (by simp only [upd_get, ev, Nat.reduceEqDiff, ↓reduceIte] <;> rfl) (by simp only [cellsL, agg, List.toList_toArray, Row.cells, Cm.L, Rq.L, Tp.L, Bat.L] <;> rfl) (by rfl) (by first | rfl | assumption | exact Rs.oneC (by first | assumption | exact SH.rsR H (by (repeat first | exact At.here | apply At.there); done) | exact SH.rsO H (by (repeat first | exact At.here | apply At.there); done) | exact (Rs.nil : Rs Non _ _ _)) | (simp only [List.all_cons, List.all_nil, Bool.and_true, Bool.and_eq_true, Row.cells, Cm.L, Rq.L, Tp.L, Bat.L]; (repeat' constructor) <;> first | rfl | assumption | exact Rs.oneC (by first | assumption | exact SH.rsR H (by (repeat first | exact At.here | apply At.there); done) | exact SH.rsO H (by (repeat first | exact At.here | apply At.there); done) | exact (Rs.nil : Rs Non _ _ _)))) (by (repeat first | exact At.here | apply At.there); done) (by first | (simp; done) | decide | (show _ ≤ _; decide)) ?_
            clear H
            intro w13_2 H
            try dsimp only [replC, List.cons_append, List.nil_append, List.append_nil, agg, cellsL, Value.cells, List.toList_toArray, List.set_cons_zero, List.set_cons_succ, spliceL, List.take_succ_cons, List.take_zero, List.drop_succ_cons, List.drop_zero, List.length_cons, List.length_nil, Nat.reduceAdd, Row.cells, Cm.L, Rq.L, Tp.L, Bat.L] at H
            refine r_assign rfl ?_
            refine r_assign rfl ?_
            refine LW.nil ?_
            refine thenE_norm (h17 _ _ ?_); clear h17; try clear K17
            refine CW.ret (thenE_ret (retC3 Try.results44 (by simp only [upd_get, ev, Nat.reduceEqDiff, ↓reduceIte] <;> rfl) (by simp only [upd_get, ev, Nat.reduceEqDiff, ↓reduceIte] <;> rfl) (by simp only [upd_get, ev, Nat.reduceEqDiff, ↓reduceIte] <;> rfl) Try.isAgg27 Try.sizeOf27 (by exact SH.cells H (by (repeat first | exact At.here | apply At.there); done)) (by rfl) ?_))
            rw [hget, bindR, hrel2, if_pos rfl, bindR, if_neg hc5]
            exact ⟨_, none, rfl, SH.give (H.addO (α := Rq) 32) (by repeat first | exact List.Sublist.refl _ | exact List.nil_sublist _ | apply List.Sublist.cons_cons | apply List.Sublist.cons) ⟨trivial, trivial⟩⟩
          · try simp only [decide_eq_true_eq, decide_eq_false_iff_not, Bool.and_eq_true, Bool.or_eq_true, Bool.and_eq_false_iff, Bool.or_eq_false_iff, Bool.not_eq_true', Bool.not_eq_false', beq_iff_eq, bne_iff_ne, ne_eq, Decidable.not_not] at hc5
            refine CW.skip ?_
            refine thenE_norm (h15 _ _ ?_); clear h15; try clear K15
            refine CW.seq (fun K18 h18 => ?_)
            refine CW.seq (fun K19 h19 => ?_)
            refine CW.region ?_
            refine r_move rfl ?_
            refine r_gtr rfl rfl rfl ?_
            refine LW.nil ?_
            refine thenE_norm (h19 _ _ ?_); clear h19; try clear K19
            refine CW.cond rfl (fun hc6 => ?_) (fun hc6 => ?_)
            · try simp only [decide_eq_true_eq, decide_eq_false_iff_not, Bool.and_eq_true, Bool.or_eq_true, Bool.and_eq_false_iff, Bool.or_eq_false_iff, Bool.not_eq_true', Bool.not_eq_false', beq_iff_eq, bne_iff_ne, ne_eq, Decidable.not_not] at hc6
              refine CW.seq (fun K20 h20 => ?_)
              refine CW.region ?_
              refine r_buildQ rfl Try.underlying27 Try.zeroValue27 rfl (pl := [(0, 1), (1, 1), (2, 2), (4, 1), (5, 1)]) (by intro w; simp [go_sem]) (qs := []) (cs := [.bool false, .int .i64 0, .int .i64 0, .int .i64 0, .int .i64 0, .slice none 0 0]) trivial rfl ?_
              refine s_storeA H Try.sizeOf27 rfl (by simp only [upd_get, ev, Nat.reduceEqDiff, ↓reduceIte] <;> rfl) (by simp only [cellsL, agg, List.toList_toArray, Row.cells, Cm.L, Rq.L, Tp.L, Bat.L] <;> rfl) (by rfl) (by first | rfl | assumption | exact Rs.oneC (by first | assumption | exact SH.rsR H (by (repeat first | exact At.here | apply At.there); done) | exact SH.rsO H (by (repeat first | exact At.here | apply At.there); done) | exact (Rs.nil : Rs Non _ _ _)) | (simp only [List.all_cons, List.all_nil, Bool.and_true, Bool.and_eq_true, Row.cells, Cm.L, Rq.L, Tp.L, Bat.L]; (repeat' constructor) <;> first | rfl | assumption | exact Rs.oneC (by first | assumption | exact SH.rsR H (by (repeat first | exact At.here | apply At.there); done) | exact SH.rsO H (by (repeat first | exact At.here | apply At.there); done) | exact (Rs.nil : Rs Non _ _ _)))) (by (repeat first | exact At.here | apply At.there); done) (by first | (simp; done) | decide | (show _ ≤ _; decide)) ?_
              clear H
              intro w15_1 H
              try dsimp only [replC, List.cons_append, List.nil_append, List.append_nil, agg, cellsL, Value.cells, List.toList_toArray, List.set_cons_zero, List.set_cons_succ, spliceL, List.take_succ_cons, List.take_zero, List.drop_succ_cons, List.drop_zero, List.length_cons, List.length_nil, Nat.reduceAdd, Row.cells, Cm.L, Rq.L, Tp.L, Bat.L] at H
              refine r_assign rfl ?_
              refine r_assign rfl ?_
              refine LW.nil ?_
              refine thenE_norm ?_
              refine cut (K := K20) [4, 5, 6] (fun σ => ?_)
              simp only [setL, keepE, upd_get, ev, Nat.reduceEqDiff, ↓reduceIte]
              refine h20 _ _ ?_; clear h20; try clear K20
              refine CW.ret (thenE_ret (retC3 Try.results44 (by simp only [upd_get, ev, Nat.reduceEqDiff, ↓reduceIte] <;> rfl) (by simp only [upd_get, ev, Nat.reduceEqDiff, ↓reduceIte] <;> rfl) (by simp only [upd_get, ev, Nat.reduceEqDiff, ↓reduceIte] <;> rfl) Try.isAgg27 Try.sizeOf27 (by exact SH.cells H (by (repeat first | exact At.here | apply At.there); done)) (by rfl) ?_))
              rw [hget, bindR, hrel2, if_pos rfl, bindR, if_pos hc5, if_pos hc6]
              exact ⟨_, none, rfl, SH.give (H.addO (α := Rq) 32) (by repeat first | exact List.Sublist.refl _ | exact List.nil_sublist _ | apply List.Sublist.cons_cons | apply List.Sublist.cons) ⟨trivial, trivial⟩⟩
            · try simp only [decide_eq_true_eq, decide_eq_false_iff_not, Bool.and_eq_true, Bool.or_eq_true, Bool.and_eq_false_iff, Bool.or_eq_false_iff, Bool.not_eq_true', Bool.not_eq_false', beq_iff_eq, bne_iff_ne, ne_eq, Decidable.not_not] at hc6
              refine CW.skip ?_
              refine thenE_norm (h18 _ _ ?_); clear h18; try clear K18
              refine CW.seq (fun K21 h21 => ?_)
              have hbr := bat_byte xs p
              have hget2 : getBat xs at_ = bindR (reqsR (byteM xs p).1.toNat []) ZB (fun rs => chkR (mayBat false l0 ⟨l1, l2⟩ l3 rs) (false, l0, ⟨l1, l2⟩, l3, rs) ZB) xs (byteM xs p).2.1 := by
                rw [hget, bindR, hrel2, if_pos rfl, bindR, if_pos hc5, if_neg hc6]
                rfl
              generalize (byteM xs p).2.1 = q2, (byteM xs p).1 = n at *
              refine CW.drawH [15] H (List.Sublist.refl _) (by kernel_rfl) rfl ?_
              clear H
              intro w16d H
              refine DL.take (i := 0) [0, 1, 2, 13, 15] rfl (by kernel_rfl) (by kernel_rfl) (by kernel_rfl) (by kernel_rfl) rfl rfl (fun u H => x_move ) H ?_
              refine DL.take (i := 1) [1, 2, 13, 15] rfl (by kernel_rfl) (by kernel_rfl) (by kernel_rfl) (by kernel_rfl) rfl rfl (fun u H => x_indexAddrV Try.underlying41 (by simp only [upd_get, ev, Nat.reduceEqDiff, ↓reduceIte] <;> rfl) rfl (by exact SH.rsO H (i := 2) rfl) (by exact Try.sizeOf3) (by decide) (by show (0 : Int) < 4; decide)) H ?_
              refine DL.take (i := 2) [2, 13, 15] rfl (by kernel_rfl) (by kernel_rfl) (by kernel_rfl) (by kernel_rfl) rfl rfl (fun u H => x_load Try.isAgg3 rfl (Rs.cell0 (by exact SH.rsO H (i := 2) rfl) (show [l0, l1, l2, l3][(0 : Int).toNat]? = some l0 from rfl) rfl)) H ?_
              refine DL.take (i := 3) [3, 4, 5, 9, 13, 15] rfl (by kernel_rfl) (by kernel_rfl) (by kernel_rfl) (by kernel_rfl) rfl rfl (fun u H => x_move ) H ?_
              refine DL.take (i := 4) [4, 5, 9, 13, 15] rfl (by kernel_rfl) (by kernel_rfl) (by kernel_rfl) (by kernel_rfl) rfl rfl (fun u H => x_indexAddrV Try.underlying41 (by simp only [upd_get, ev, Nat.reduceEqDiff, ↓reduceIte] <;> rfl) rfl (by exact SH.rsO H (i := 2) rfl) (by exact Try.sizeOf3) (by decide) (by show (1 : Int) < 4; decide)) H ?_
              refine DL.take (i := 5) [5, 9, 13, 15] rfl (by kernel_rfl) (by kernel_rfl) (by kernel_rfl) (by kernel_rfl) rfl rfl (fun u H => x_load Try.isAgg3 rfl (Rs.cell0 (by exact SH.rsO H (i := 2) rfl) (show [l0, l1, l2, l3][(1 : Int).toNat]? = some l1 from rfl) rfl)) H ?_
              refine DL.take (i := 6) [6, 7, 8, 9, 13, 15] rfl (by kernel_rfl) (by kernel_rfl) (by kernel_rfl) (by kernel_rfl) rfl rfl (fun u H => x_move ) H ?_
              refine DL.take (i := 7) [7, 8, 9, 13, 15] rfl (by kernel_rfl) (by kernel_rfl) (by kernel_rfl) (by kernel_rfl) rfl rfl (fun u H => x_indexAddrV Try.underlying41 (by simp only [upd_get, ev, Nat.reduceEqDiff, ↓reduceIte] <;> rfl) rfl (by exact SH.rsO H (i := 2) rfl) (by exact Try.sizeOf3) (by decide) (by show (2 : Int) < 4; decide)) H ?_
              refine DL.take (i := 8) [8, 9, 13, 15] rfl (by kernel_rfl) (by kernel_rfl) (by kernel_rfl) (by kernel_rfl) rfl rfl (fun u H => x_load Try.isAgg3 rfl (Rs.cell0 (by exact SH.rsO H (i := 2) rfl) (show [l0, l1, l2, l3][(2 : Int).toNat]? = some l2 from rfl) rfl)) H ?_
              refine DL.take (i := 9) [9, 13, 15] rfl (by kernel_rfl) (by kernel_rfl) (by kernel_rfl) (by kernel_rfl) rfl rfl (fun u H => x_buildQ Try.underlying24 Try.zeroValue24 rfl (pl := [(0, 1), (1, 1)]) (by intro w; simp [go_sem]) (qs := [(0, [_]), (1, [_])]) (cs := [_, _]) ⟨rfl, cells_one (by simp only [upd_get, ev, Nat.reduceEqDiff, ↓reduceIte] <;> rfl) (by first | rfl | exact Rs.oneC (by first | assumption | exact SH.rsR H (by (repeat first | exact At.here | apply At.there); done) | exact SH.rsO H (by (repeat first | exact At.here | apply At.there); done) | exact (Rs.nil : Rs Non _ _ _))), rfl, cells_one (by simp only [upd_get, ev, Nat.reduceEqDiff, ↓reduceIte] <;> rfl) (by first | rfl | exact Rs.oneC (by first | assumption | exact SH.rsR H (by (repeat first | exact At.here | apply At.there); done) | exact SH.rsO H (by (repeat first | exact At.here | apply At.there); done) | exact (Rs.nil : Rs Non _ _ _))), trivial⟩ rfl) H ?_
              refine DL.take (i := 10) [10, 11, 12, 13, 15] rfl (by kernel_rfl) (by kernel_rfl) (by kernel_rfl) (by kernel_rfl) rfl rfl (fun u H => x_move ) H ?_
              refine DL.take (i := 11) [11, 12, 13, 15] rfl (by kernel_rfl) (by kernel_rfl) (by kernel_rfl) (by kernel_rfl) rfl rfl (fun u H => x_indexAddrV Try.underlying41 (by simp only [upd_get, ev, Nat.reduceEqDiff, ↓reduceIte] <;> rfl) rfl (by exact SH.rsO H (i := 2) rfl) (by exact Try.sizeOf3) (by decide) (by show (3 : Int) < 4; decide)) H ?_
              refine DL.take (i := 12) [12, 13, 15] rfl (by kernel_rfl) (by kernel_rfl) (by kernel_rfl) (by kernel_rfl) rfl rfl (fun u H => x_load Try.isAgg3 rfl (Rs.cell0 (by exact SH.rsO H (i := 2) rfl) (show [l0, l1, l2, l3][(3 : Int).toNat]? = some l3 from rfl) rfl)) H ?_
              refine DL.take (i := 13) [13, 15] rfl (by kernel_rfl) (by kernel_rfl) (by kernel_rfl) (by kernel_rfl) rfl rfl (fun u H => x_buildQ Try.underlying27 Try.zeroValue27 rfl (pl := [(0, 1), (1, 1), (2, 2), (4, 1), (5, 1)]) (by intro w; simp [go_sem]) (qs := [(1, [_]), (2, [_, _]), (3, [_])]) (cs := [.bool false, _, _, _, _, .slice none 0 0]) ⟨rfl, cells_one (by simp only [upd_get, ev, Nat.reduceEqDiff, ↓reduceIte] <;> rfl) (by first | rfl | exact Rs.oneC (by first | assumption | exact SH.rsR H (by (repeat first | exact At.here | apply At.there); done) | exact SH.rsO H (by (repeat first | exact At.here | apply At.there); done) | exact (Rs.nil : Rs Non _ _ _))), rfl, (by simp only [upd_get, ev, Nat.reduceEqDiff, ↓reduceIte, cellsL, agg, List.toList_toArray, Row.cells, Cm.L, Rq.L, Tp.L, Bat.L] <;> rfl), rfl, cells_one (by simp only [upd_get, ev, Nat.reduceEqDiff, ↓reduceIte] <;> rfl) (by first | rfl | exact Rs.oneC (by first | assumption | exact SH.rsR H (by (repeat first | exact At.here | apply At.there); done) | exact SH.rsO H (by (repeat first | exact At.here | apply At.there); done) | exact (Rs.nil : Rs Non _ _ _))), trivial⟩ rfl) H ?_
              refine DL.one (i := 14) (by kernel_rfl) rfl rfl ?_
              refine s_alloc (cs := [.bool false, .int .i64 0, .int .i64 0, .int .i64 0, .int .i64 0, .slice none 0 0]) H rfl Try.zeroValue27 rfl ?_
              clear H
              intro b16_14 w16_14 H
              try dsimp only [replC, List.cons_append, List.nil_append, List.append_nil, agg, cellsL, Value.cells, List.toList_toArray, List.set_cons_zero, List.set_cons_succ, spliceL, List.take_succ_cons, List.take_zero, List.drop_succ_cons, List.drop_zero, List.length_cons, List.length_nil, Nat.reduceAdd, Row.cells, Cm.L, Rq.L, Tp.L, Bat.L] at H
              refine LW.nil (thenE_norm ⟨fun _ => (SH.sub H (by repeat first | exact List.Sublist.refl _ | exact List.nil_sublist _ | apply List.Sublist.cons_cons | apply List.Sublist.cons)), ?_⟩)
              refine DL.one (i := 15) (by kernel_rfl) rfl rfl ?_
              refine s_storeA H Try.sizeOf27 rfl (by simp only [upd_get, ev, Nat.reduceEqDiff, ↓reduceIte] <;> rfl) (by simp only [cellsL, agg, List.toList_toArray, Row.cells, Cm.L, Rq.L, Tp.L, Bat.L] <;> rfl) (by rfl) (by first | rfl | assumption | exact Rs.oneC (by first | assumption | exact SH.rsR H (by (repeat first | exact At.here | apply At.there); done) | exact SH.rsO H (by (repeat first | exact At.here | apply At.there); done) | exact (Rs.nil : Rs Non _ _ _)) | (simp only [List.all_cons, List.all_nil, Bool.and_true, Bool.and_eq_true, Row.cells, Cm.L, Rq.L, Tp.L, Bat.L]; (repeat' constructor) <;> first | rfl | assumption | exact Rs.oneC (by first | assumption | exact SH.rsR H (by (repeat first | exact At.here | apply At.there); done) | exact SH.rsO H (by (repeat first | exact At.here | apply At.there); done) | exact (Rs.nil : Rs Non _ _ _)))) (by (repeat first | exact At.here | apply At.there); done) (by first | (simp; done) | decide | (show _ ≤ _; decide)) ?_
              clear H
              intro w16_15 H
              try dsimp only [replC, List.cons_append, List.nil_append, List.append_nil, agg, cellsL, Value.cells, List.toList_toArray, List.set_cons_zero, List.set_cons_succ, spliceL, List.take_succ_cons, List.take_zero, List.drop_succ_cons, List.drop_zero, List.length_cons, List.length_nil, Nat.reduceAdd, Row.cells, Cm.L, Rq.L, Tp.L, Bat.L] at H
              refine LW.nil (thenE_norm ⟨fun h => Bool.noConfusion (show true = false from h), ?_⟩)
              refine DL.done (by kernel_rfl) ?_
              refine thenE_norm ?_
              refine cut (K := K21) [0, 1, 4, 10, 11] (fun σ => ?_)
              simp only [setL, keepE, upd_get, ev, Nat.reduceEqDiff, ↓reduceIte]
              refine h21 _ _ ?_; clear h21; try clear K21
              refine CW.seq (fun K22 h22 => ?_)
              refine CW.seq (fun K23 h23 => ?_)
              refine CW.region ?_
              refine r_assign rfl ?_
              refine LW.nil ?_
              refine thenE_norm (h23 _ _ ?_); clear h23; try clear K23
              refine CW.block ?_
              refine CW.loopR [0, 4, 10, 11] [1, 12] (fun m vs w' => ∃ (i : Nat) (u : Value) (g : Option Nat) (p : Int) (l : List Rq), vs = [.int .i64 p, .int .i64 i] ∧ i ≤ n ∧ l.length = i ∧ m = n.toNat - i ∧ reqsR n.toNat [] xs q2 = reqsR (n.toNat - i) l xs p ∧ SH Non Any w w' [.R (Old w) v xs, .B b0_0 27 [.bool false, .int .i64 0, .int .i64 0, .int .i64 0, .int .i64 0, .slice none 0 0], .B b16_14 27 [.bool false, .int .i64 l0, .int .i64 l1, .int .i64 l2, .int .i64 l3, u], .O 32 u l g]) (n.toNat) ?_ ?_
              · exact ⟨0, .slice none 0 0, none, q2, [], rfl, by omega, rfl, by omega, rfl, SH.sel (H.addO (α := Rq) 32) [0, 1, 3, 4] (by decide) rfl⟩
              try clear H
              rintro n1 vs1 wL1 σ ⟨i, u, g, p2, l, rfl, hi, hll2, rfl, hrl, H⟩
              simp only [setL, keepE, upd_get, ev, Nat.reduceEqDiff, ↓reduceIte]
              refine CW.seq (fun K24 h24 => ?_)
              refine CW.seq (fun K25 h25 => ?_)
              refine CW.region ?_
              refine r_move rfl ?_
              refine r_move rfl ?_
              refine r_lss rfl rfl rfl ?_
              refine LW.nil ?_
              refine thenE_norm (h25 _ _ ?_); clear h25; try clear K25
              refine CW.cond rfl (fun hc7 => ?_) (fun hc7 => ?_)
              · try simp only [decide_eq_true_eq, decide_eq_false_iff_not, Bool.and_eq_true, Bool.or_eq_true, Bool.and_eq_false_iff, Bool.or_eq_false_iff, Bool.not_eq_true', Bool.not_eq_false', beq_iff_eq, bne_iff_ne, ne_eq, Decidable.not_not] at hc7
                refine CW.skip ?_
                refine thenE_norm (h24 _ _ ?_); clear h24; try clear K24
                refine CW.seq (fun K26 h26 => ?_)
                refine CW.block ?_
                refine CW.seq (fun K27 h27 => ?_)
                have hk : n.toNat - i = (n.toNat - (i + 1)) + 1 := by omega
                rw [hk, reqs_s] at hrl
                refine CW.region ?_
                refine r_move rfl ?_
                refine r_move rfl ?_
                refine r_call rfl Try.call89 (by simp only [List.map_cons, List.map_nil, List.map_toArray, List.toList_toArray, upd_get, ev, Nat.reduceEqDiff, ↓reduceIte] <;> rfl) (GetRqRS_c _ _ (by first | assumption | exact SH.rsR H (by (repeat first | exact At.here | apply At.there); done) | exact SH.rsO H (by (repeat first | exact At.here | apply At.there); done) | exact (Rs.nil : Rs Non _ _ _))) ?_
                rintro _ w20_2 ⟨rfl, X⟩
                refine ⟨_, rfl, ?_⟩
                replace H := SH.same H X
                clear X
                refine r_move rfl ?_
                refine r_extract rfl (by simp only [upd_get, ev, Nat.reduceEqDiff, ↓reduceIte] <;> rfl) (by simp only [List.getElem?_toArray, List.getElem?_cons_zero, List.getElem?_cons_succ] <;> rfl) ?_
                refine r_extract rfl (by simp only [upd_get, ev, Nat.reduceEqDiff, ↓reduceIte] <;> rfl) (by simp only [List.getElem?_toArray, List.getElem?_cons_zero, List.getElem?_cons_succ] <;> rfl) ?_
                refine r_extract rfl (by simp only [upd_get, ev, Nat.reduceEqDiff, ↓reduceIte] <;> rfl) (by simp only [List.getElem?_toArray, List.getElem?_cons_zero, List.getElem?_cons_succ] <;> rfl) ?_
                refine s_alloc (cs := [.int .i64 0, .int .i64 0, .int .i64 0, .int .i64 0, .string (ByteArray.mk #[])]) H rfl Try.zeroValue32 rfl ?_
                clear H
                intro b20_7 w20_7 H
                try dsimp only [replC, List.cons_append, List.nil_append, List.append_nil, agg, cellsL, Value.cells, List.toList_toArray, List.set_cons_zero, List.set_cons_succ, spliceL, List.take_succ_cons, List.take_zero, List.drop_succ_cons, List.drop_zero, List.length_cons, List.length_nil, Nat.reduceAdd, Row.cells, Cm.L, Rq.L, Tp.L, Bat.L] at H
                refine s_storeA H Try.sizeOf32 rfl (by simp only [upd_get, ev, Nat.reduceEqDiff, ↓reduceIte] <;> rfl) (by simp only [cellsL, agg, List.toList_toArray, Row.cells, Cm.L, Rq.L, Tp.L, Bat.L] <;> rfl) (by rfl) (by first | rfl | assumption | exact Rs.oneC (by first | assumption | exact SH.rsR H (by (repeat first | exact At.here | apply At.there); done) | exact SH.rsO H (by (repeat first | exact At.here | apply At.there); done) | exact (Rs.nil : Rs Non _ _ _)) | (simp only [List.all_cons, List.all_nil, Bool.and_true, Bool.and_eq_true, Row.cells, Cm.L, Rq.L, Tp.L, Bat.L]; (repeat' constructor) <;> first | rfl | assumption | exact Rs.oneC (by first | assumption | exact SH.rsR H (by (repeat first | exact At.here | apply At.there); done) | exact SH.rsO H (by (repeat first | exact At.here | apply At.there); done) | exact (Rs.nil : Rs Non _ _ _)))) (by (repeat first | exact At.here | apply At.there); done) (by first | (simp; done) | decide | (show _ ≤ _; decide)) ?_
                clear H
                intro w20_8 H
                try dsimp only [replC, List.cons_append, List.nil_append, List.append_nil, agg, cellsL, Value.cells, List.toList_toArray, List.set_cons_zero, List.set_cons_succ, spliceL, List.take_succ_cons, List.take_zero, List.drop_succ_cons, List.drop_zero, List.length_cons, List.length_nil, Nat.reduceAdd, Row.cells, Cm.L, Rq.L, Tp.L, Bat.L] at H
                refine r_assign rfl ?_
                refine r_assign rfl ?_
                refine LW.nil ?_
                refine thenE_norm ?_
                refine cut (K := K27) [0, 4, 10, 11, 12, 13, 14, 15] (fun σ => ?_)
                simp only [setL, keepE, upd_get, ev, Nat.reduceEqDiff, ↓reduceIte]
                refine h27 _ _ ?_; clear h27; try clear K27
                refine CW.seq (fun K28 h28 => ?_)
                refine CW.seq (fun K29 h29 => ?_)
                refine CW.region ?_
                refine r_move rfl ?_
                refine r_neq rfl rfl rfl ?_
                refine LW.nil ?_
                refine thenE_norm (h29 _ _ ?_); clear h29; try clear K29
                refine CW.cond rfl (fun hc8 => ?_) (fun hc8 => ?_)
                · try simp only [decide_eq_true_eq, decide_eq_false_iff_not, Bool.and_eq_true, Bool.or_eq_true, Bool.and_eq_false_iff, Bool.or_eq_false_iff, Bool.not_eq_true', Bool.not_eq_false', beq_iff_eq, bne_iff_ne, ne_eq, Decidable.not_not] at hc8
                  refine CW.seq (fun K30 h30 => ?_)
                  refine CW.region ?_
                  refine r_buildQ rfl Try.underlying27 Try.zeroValue27 rfl (pl := [(0, 1), (1, 1), (2, 2), (4, 1), (5, 1)]) (by intro w; simp [go_sem]) (qs := []) (cs := [.bool false, .int .i64 0, .int .i64 0, .int .i64 0, .int .i64 0, .slice none 0 0]) trivial rfl ?_
                  refine r_move rfl ?_
                  refine s_storeA H Try.sizeOf27 rfl (by simp only [upd_get, ev, Nat.reduceEqDiff, ↓reduceIte] <;> rfl) (by simp only [cellsL, agg, List.toList_toArray, Row.cells, Cm.L, Rq.L, Tp.L, Bat.L] <;> rfl) (by rfl) (by first | rfl | assumption | exact Rs.oneC (by first | assumption | exact SH.rsR H (by (repeat first | exact At.here | apply At.there); done) | exact SH.rsO H (by (repeat first | exact At.here | apply At.there); done) | exact (Rs.nil : Rs Non _ _ _)) | (simp only [List.all_cons, List.all_nil, Bool.and_true, Bool.and_eq_true, Row.cells, Cm.L, Rq.L, Tp.L, Bat.L]; (repeat' constructor) <;> first | rfl | assumption | exact Rs.oneC (by first | assumption | exact SH.rsR H (by (repeat first | exact At.here | apply At.there); done) | exact SH.rsO H (by (repeat first | exact At.here | apply At.there); done) | exact (Rs.nil : Rs Non _ _ _)))) (by (repeat first | exact At.here | apply At.there); done) (by first | (simp; done) | decide | (show _ ≤ _; decide)) ?_
                  clear H
                  intro w22_2 H
                  try dsimp only [replC, List.cons_append, List.nil_append, List.append_nil, agg, cellsL, Value.cells, List.toList_toArray, List.set_cons_zero, List.set_cons_succ, spliceL, List.take_succ_cons, List.take_zero, List.drop_succ_cons, List.drop_zero, List.length_cons, List.length_nil, Nat.reduceAdd, Row.cells, Cm.L, Rq.L, Tp.L, Bat.L] at H
                  refine r_assign rfl ?_
                  refine r_assign rfl ?_
                  refine LW.nil ?_
                  refine thenE_norm (h30 _ _ ?_); clear h30; try clear K30
                  refine CW.ret (thenE_ret (blockE_ret (thenE_ret (thenE_ret (blockE_ret (thenE_ret (retC3 Try.results44 (by simp only [upd_get, ev, Nat.reduceEqDiff, ↓reduceIte] <;> rfl) (by simp only [upd_get, ev, Nat.reduceEqDiff, ↓reduceIte] <;> rfl) (by simp only [upd_get, ev, Nat.reduceEqDiff, ↓reduceIte] <;> rfl) Try.isAgg27 Try.sizeOf27 (by exact SH.cells H (by (repeat first | exact At.here | apply At.there); done)) (by rfl) ?_)))))))
                  rw [bindR, if_neg hc8] at hrl
                  rw [hget2, bindR, hrl, if_neg hc8]
                  exact ⟨_, none, rfl, SH.give (H.addO (α := Rq) 32) (by repeat first | exact List.Sublist.refl _ | exact List.nil_sublist _ | apply List.Sublist.cons_cons | apply List.Sublist.cons) ⟨trivial, trivial⟩⟩
                · try simp only [decide_eq_true_eq, decide_eq_false_iff_not, Bool.and_eq_true, Bool.or_eq_true, Bool.and_eq_false_iff, Bool.or_eq_false_iff, Bool.not_eq_true', Bool.not_eq_false', beq_iff_eq, bne_iff_ne, ne_eq, Decidable.not_not] at hc8
                  refine CW.skip ?_
                  refine thenE_norm (h28 _ _ ?_); clear h28; try clear K28
                  refine CW.seq (fun K31 h31 => ?_)
                  refine CW.region ?_
                  refine r_fieldAddrO rfl Try.underlying27 rfl Try.sizeOf25 (by decide) (show _ = 5 from rfl) rfl ?_
                  refine r_load rfl Try.isAgg25 rfl (by first | exact SH.cellB H (by (repeat first | exact At.here | apply At.there); done) (by rfl) | assumption) ?_
                  refine r_loadA rfl Try.isAgg32 Try.sizeOf32 rfl (by first | exact SH.cells H (by (repeat first | exact At.here | apply At.there); done)) (by rfl) ?_
                  refine r_buildSliceA (vs := [_]) rfl Try.underlying25 Try.sizeOf32 Try.zeroValue32 rfl rfl rfl rfl (by simp only [List.map_cons, List.map_nil, List.toList_toArray, numbered, Nat.reduceAdd, upd_get, ev, Nat.reduceEqDiff, ↓reduceIte] <;> rfl) rfl (by intro v hv; simp only [List.mem_cons, List.not_mem_nil, or_false] at hv; rcases hv with rfl <;> rfl) ?_
                  intro b23_3 w23_3 hb23_3 hs23_3 hE23_3 hB23_3
                  replace H := SH.call H (SH.fromB hE23_3 hb23_3 hs23_3 hB23_3)
                  clear hb23_3 hs23_3 hE23_3 hB23_3
                  try dsimp only [replC, List.cons_append, List.nil_append, List.append_nil, agg, cellsL, Value.cells, List.toList_toArray, List.set_cons_zero, List.set_cons_succ, spliceL, List.take_succ_cons, List.take_zero, List.drop_succ_cons, List.drop_zero, List.length_cons, List.length_nil, Nat.reduceAdd, Row.cells, Cm.L, Rq.L, Tp.L, Bat.L] at H
                  replace H := SH.row (b := b23_3) (xs := ([(getRq xs p2).1] : List Rq)) (n := 1) (cap := 1) H (by (repeat first | exact At.here | apply At.there); done) (by simp only [flat, List.flatMap_cons, List.flatMap_nil, cellsL, agg, List.append_nil, List.cons_append, List.nil_append, List.toList_toArray, Row.cells, Cm.L, Rq.L, Tp.L, Bat.L] <;> rfl) (by intro x hx; first | rfl | (simp at hx; done) | (simp only [List.mem_cons, List.not_mem_nil, or_false] at hx; rcases hx with rfl <;> first | rfl | exact (by first | rfl | assumption | exact Rs.oneC (by first | assumption | exact SH.rsR H (by (repeat first | exact At.here | apply At.there); done) | exact SH.rsO H (by (repeat first | exact At.here | apply At.there); done) | exact (Rs.nil : Rs Non _ _ _)) | (simp only [List.all_cons, List.all_nil, Bool.and_true, Bool.and_eq_true, Row.cells, Cm.L, Rq.L, Tp.L, Bat.L]; (repeat' constructor) <;> first | rfl | assumption | exact Rs.oneC (by first | assumption | exact SH.rsR H (by (repeat first | exact At.here | apply At.there); done) | exact SH.rsO H (by (repeat first | exact At.here | apply At.there); done) | exact (Rs.nil : Rs Non _ _ _)))))) (by rfl) rfl (by decide)
                  try dsimp only [replC, List.cons_append, List.nil_append, List.append_nil, agg, cellsL, Value.cells, List.toList_toArray, List.set_cons_zero, List.set_cons_succ, spliceL, List.take_succ_cons, List.take_zero, List.drop_succ_cons, List.drop_zero, List.length_cons, List.length_nil, Nat.reduceAdd, Row.cells, Cm.L, Rq.L, Tp.L, Bat.L] at H
                  refine s_append H rfl Try.underlying25 Try.underlying25 Try.type32 rfl (by simp only [upd_get, ev, Nat.reduceEqDiff, ↓reduceIte] <;> rfl) (by simp only [upd_get, ev, Nat.reduceEqDiff, ↓reduceIte] <;> rfl) (by (repeat first | exact At.here | apply At.there); done) (by first | assumption | exact SH.rsR H (by (repeat first | exact At.here | apply At.there); done) | exact SH.rsO H (by (repeat first | exact At.here | apply At.there); done) | exact (Rs.nil : Rs Non _ _ _)) (by rfl) (by rfl) (by first | omega | (simp only [Try.t32, List.length_append, List.length_cons, List.length_nil, List.length_map, maxLen]; omega) | (simp [Try.t32, maxLen]; omega)) (by first | omega | (simp only [Try.t32, List.length_append, List.length_cons, List.length_nil, List.length_map, maxLen]; omega) | (simp [Try.t32, maxLen]; omega)) ?_
                  clear H
                  intro v23_4 w23_4 g23_4 H hN23_4
                  try dsimp only [replC, List.cons_append, List.nil_append, List.append_nil] at H
                  refine r_fieldAddrO rfl Try.underlying27 rfl Try.sizeOf25 (by decide) (show _ = 5 from rfl) rfl ?_
                  refine s_store H Try.sizeOf25 rfl (by simp only [upd_get, ev, Nat.reduceEqDiff, ↓reduceIte] <;> rfl) (by first | rfl | assumption | exact Rs.oneC (by first | assumption | exact SH.rsR H (by (repeat first | exact At.here | apply At.there); done) | exact SH.rsO H (by (repeat first | exact At.here | apply At.there); done) | exact (Rs.nil : Rs Non _ _ _)) | (simp only [List.all_cons, List.all_nil, Bool.and_true, Bool.and_eq_true, Row.cells, Cm.L, Rq.L, Tp.L, Bat.L]; (repeat' constructor) <;> first | rfl | assumption | exact Rs.oneC (by first | assumption | exact SH.rsR H (by (repeat first | exact At.here | apply At.there); done) | exact SH.rsO H (by (repeat first | exact At.here | apply At.there); done) | exact (Rs.nil : Rs Non _ _ _)))) (by (repeat first | exact At.here | apply At.there); done) (by first | (simp; done) | decide | omega) ?_
                  clear H
                  intro w23_6 H
                  try dsimp only [replC, List.cons_append, List.nil_append, List.append_nil, agg, cellsL, Value.cells, List.toList_toArray, List.set_cons_zero, List.set_cons_succ, spliceL, List.take_succ_cons, List.take_zero, List.drop_succ_cons, List.drop_zero, List.length_cons, List.length_nil, Nat.reduceAdd, Row.cells, Cm.L, Rq.L, Tp.L, Bat.L] at H
                  refine LW.nil ?_
                  refine thenE_norm ?_
                  refine cut (K := K31) [0, 4, 10, 11, 12, 14] (fun σ => ?_)
                  simp only [setL, keepE, upd_get, ev, Nat.reduceEqDiff, ↓reduceIte]
                  refine h31 _ _ ?_; clear h31; try clear K31
                  refine CW.region ?_
                  refine r_move rfl ?_
                  refine r_assign rfl ?_
                  refine LW.nil ?_
                  refine blockE_norm ?_
                  refine thenE_norm (h26 _ _ ?_); clear h26; try clear K26
                  refine CW.region ?_
                  refine r_move rfl ?_
                  refine r_add rfl rfl rfl (wr_i64 (by omega) (by omega)) ?_
                  refine r_assign rfl ?_
                  refine LW.nil ?_
                  refine thenE_norm ⟨rfl, ?_⟩
                  rw [bindR, if_pos hc8] at hrl
                  exact ⟨n.toNat - (i + 1), by omega, i + 1, _, _, _, _, rfl, by omega, by simp [hll2], rfl, hrl, SH.sel H [0, 1, 2, 3] (by decide) rfl⟩
              · try simp only [decide_eq_true_eq, decide_eq_false_iff_not, Bool.and_eq_true, Bool.or_eq_true, Bool.and_eq_false_iff, Bool.or_eq_false_iff, Bool.not_eq_true', Bool.not_eq_false', beq_iff_eq, bne_iff_ne, ne_eq, Decidable.not_not] at hc7
                refine CW.exit (thenE_exit (thenE_exit (blockE_hit ?_)))
                refine thenE_norm (h22 _ _ ?_); clear h22; try clear K22
                refine CW.seq (fun K32 h32 => ?_)
                refine CW.seq (fun K33 h33 => ?_)
                obtain rfl : n = i := by omega
                rw [show (i : Int).toNat - i = 0 by omega] at hrl
                have hrl2 : reqsR (i : Int).toNat [] xs q2 = (l, p2, 0) := hrl
                refine CW.region ?_
                refine r_loadA rfl Try.isAgg27 Try.sizeOf27 rfl (by first | exact SH.cells H (by (repeat first | exact At.here | apply At.there); done)) (by rfl) ?_
                refine r_call rfl Try.call45 (by simp only [List.map_cons, List.map_nil, List.map_toArray, List.toList_toArray, upd_get, ev, Nat.reduceEqDiff, ↓reduceIte] <;> rfl) (MayBatR_c ⟨_, _, ⟨_, _⟩, _, _⟩ _ (by first | assumption | exact SH.rsR H (by (repeat first | exact At.here | apply At.there); done) | exact SH.rsO H (by (repeat first | exact At.here | apply At.there); done) | exact (Rs.nil : Rs Non _ _ _))) ?_
                rintro _ w25_1 ⟨rfl, X⟩
                refine ⟨_, rfl, ?_⟩
                replace H := SH.same H X
                clear X
                refine r_not rfl rfl ?_
                refine LW.nil ?_
                refine thenE_norm (h33 _ _ ?_); clear h33; try clear K33
                refine CW.cond rfl (fun hc9 => ?_) (fun hc9 => ?_)
                · try simp only [decide_eq_true_eq, decide_eq_false_iff_not, Bool.and_eq_true, Bool.or_eq_true, Bool.and_eq_false_iff, Bool.or_eq_false_iff, Bool.not_eq_true', Bool.not_eq_false', beq_iff_eq, bne_iff_ne, ne_eq, Decidable.not_not] at hc9
                  refine CW.seq (fun K34 h34 => ?_)
                  refine CW.region ?_
                  refine r_buildQ rfl Try.underlying27 Try.zeroValue27 rfl (pl := [(0, 1), (1, 1), (2, 2), (4, 1), (5, 1)]) (by intro w; simp [go_sem]) (qs := []) (cs := [.bool false, .int .i64 0, .int .i64 0, .int .i64 0, .int .i64 0, .slice none 0 0]) trivial rfl ?_
                  refine s_storeA H Try.sizeOf27 rfl (by simp only [upd_get, ev, Nat.reduceEqDiff, ↓reduceIte] <;> rfl) (by simp only [cellsL, agg, List.toList_toArray, Row.cells, Cm.L, Rq.L, Tp.L, Bat.L] <;> rfl) (by rfl) (by first | rfl | assumption | exact Rs.oneC (by first | assumption | exact SH.rsR H (by (repeat first | exact At.here | apply At.there); done) | exact SH.rsO H (by (repeat first | exact At.here | apply At.there); done) | exact (Rs.nil : Rs Non _ _ _)) | (simp only [List.all_cons, List.all_nil, Bool.and_true, Bool.and_eq_true, Row.cells, Cm.L, Rq.L, Tp.L, Bat.L]; (repeat' constructor) <;> first | rfl | assumption | exact Rs.oneC (by first | assumption | exact SH.rsR H (by (repeat first | exact At.here | apply At.there); done) | exact SH.rsO H (by (repeat first | exact At.here | apply At.there); done) | exact (Rs.nil : Rs Non _ _ _)))) (by (repeat first | exact At.here | apply At.there); done) (by first | (simp; done) | decide | (show _ ≤ _; decide)) ?_
                  clear H
                  intro w26_1 H
                  try dsimp only [replC, List.cons_append, List.nil_append, List.append_nil, agg, cellsL, Value.cells, List.toList_toArray, List.set_cons_zero, List.set_cons_succ, spliceL, List.take_succ_cons, List.take_zero, List.drop_succ_cons, List.drop_zero, List.length_cons, List.length_nil, Nat.reduceAdd, Row.cells, Cm.L, Rq.L, Tp.L, Bat.L] at H
                  refine r_assign rfl ?_
                  refine r_assign rfl ?_
                  refine LW.nil ?_
                  refine thenE_norm ?_
                  refine cut (K := K34) [4, 5, 6] (fun σ => ?_)
                  simp only [setL, keepE, upd_get, ev, Nat.reduceEqDiff, ↓reduceIte]
                  refine h34 _ _ ?_; clear h34; try clear K34
                  refine CW.ret (thenE_ret (retC3 Try.results44 (by simp only [upd_get, ev, Nat.reduceEqDiff, ↓reduceIte] <;> rfl) (by simp only [upd_get, ev, Nat.reduceEqDiff, ↓reduceIte] <;> rfl) (by simp only [upd_get, ev, Nat.reduceEqDiff, ↓reduceIte] <;> rfl) Try.isAgg27 Try.sizeOf27 (by exact SH.cells H (by (repeat first | exact At.here | apply At.there); done)) (by rfl) ?_))
                  rw [hget2, bindR, hrl2, if_pos rfl, chkR, if_neg (by simpa using hc9)]
                  exact ⟨_, none, rfl, SH.give (H.addO (α := Rq) 32) (by repeat first | exact List.Sublist.refl _ | exact List.nil_sublist _ | apply List.Sublist.cons_cons | apply List.Sublist.cons) ⟨trivial, trivial⟩⟩
                · try simp only [decide_eq_true_eq, decide_eq_false_iff_not, Bool.and_eq_true, Bool.or_eq_true, Bool.and_eq_false_iff, Bool.or_eq_false_iff, Bool.not_eq_true', Bool.not_eq_false', beq_iff_eq, bne_iff_ne, ne_eq, Decidable.not_not] at hc9
                  refine CW.skip ?_
                  refine thenE_norm (h32 _ _ ?_); clear h32; try clear K32
                  refine CW.seq (fun K35 h35 => ?_)
                  refine CW.region ?_
                  refine r_loadA rfl Try.isAgg27 Try.sizeOf27 rfl (by first | exact SH.cells H (by (repeat first | exact At.here | apply At.there); done)) (by rfl) ?_
                  refine r_move rfl ?_
                  refine s_storeA H Try.sizeOf27 rfl (by simp only [upd_get, ev, Nat.reduceEqDiff, ↓reduceIte] <;> rfl) (by simp only [cellsL, agg, List.toList_toArray, Row.cells, Cm.L, Rq.L, Tp.L, Bat.L] <;> rfl) (by rfl) (by first | rfl | assumption | exact Rs.oneC (by first | assumption | exact SH.rsR H (by (repeat first | exact At.here | apply At.there); done) | exact SH.rsO H (by (repeat first | exact At.here | apply At.there); done) | exact (Rs.nil : Rs Non _ _ _)) | (simp only [List.all_cons, List.all_nil, Bool.and_true, Bool.and_eq_true, Row.cells, Cm.L, Rq.L, Tp.L, Bat.L]; (repeat' constructor) <;> first | rfl | assumption | exact Rs.oneC (by first | assumption | exact SH.rsR H (by (repeat first | exact At.here | apply At.there); done) | exact SH.rsO H (by (repeat first | exact At.here | apply At.there); done) | exact (Rs.nil : Rs Non _ _ _)))) (by (repeat first | exact At.here | apply At.there); done) (by first | (simp; done) | decide | (show _ ≤ _; decide)) ?_
                  clear H
                  intro w27_2 H
                  try dsimp only [replC, List.cons_append, List.nil_append, List.append_nil, agg, cellsL, Value.cells, List.toList_toArray, List.set_cons_zero, List.set_cons_succ, spliceL, List.take_succ_cons, List.take_zero, List.drop_succ_cons, List.drop_zero, List.length_cons, List.length_nil, Nat.reduceAdd, Row.cells, Cm.L, Rq.L, Tp.L, Bat.L] at H
                  refine r_assign rfl ?_
                  refine r_assign rfl ?_
                  refine LW.nil ?_
                  refine thenE_norm ?_
                  refine cut (K := K35) [4, 5, 6] (fun σ => ?_)
                  simp only [setL, keepE, upd_get, ev, Nat.reduceEqDiff, ↓reduceIte]
                  refine h35 _ _ ?_; clear h35; try clear K35
                  refine CW.ret (retC3 Try.results44 (by simp only [upd_get, ev, Nat.reduceEqDiff, ↓reduceIte] <;> rfl) (by simp only [upd_get, ev, Nat.reduceEqDiff, ↓reduceIte] <;> rfl) (by simp only [upd_get, ev, Nat.reduceEqDiff, ↓reduceIte] <;> rfl) Try.isAgg27 Try.sizeOf27 (by exact SH.cells H (by (repeat first | exact At.here | apply At.there); done)) (by rfl) ?_)
                  rw [hget2, bindR, hrl2, if_pos rfl, chkR, if_pos (by simpa using hc9)]
                  exact ⟨_, _, rfl, SH.give H (by repeat first | exact List.Sublist.refl _ | exact List.nil_sublist _ | apply List.Sublist.cons_cons | apply List.Sublist.cons) ⟨trivial, trivial⟩⟩
end Go.Proofs.Ytalieccfdmokmaa
