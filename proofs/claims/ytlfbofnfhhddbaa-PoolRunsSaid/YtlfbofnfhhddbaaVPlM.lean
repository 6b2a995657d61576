/-
  The walks of layer 19's document, the second part: marks, what is told, what is let go; a memo's last.
-/
import Derived.Test.YtlfbofnfhhddbaaVPlL
namespace Go.Proofs.Ytlfbofnfhhddbaa
set_option linter.unusedSimpArgs false
set_option linter.unusedVariables false
set_option maxRecDepth 20000
open Go.V Go.RowKit Go.ChangeShapes Go.WideShapes

/-- A list that is changed from the front, at a place. -/
def putL {α : Type} (f : α → α) (xs : List α) (i : Nat) (y : α) : List α := (xs.take i).map f ++ y :: xs.drop (i + 1)
section
variable {α : Type} {f : α → α} {xs : List α} {i : Nat} {x y z : α}
theorem putL_len (h : i < xs.length) : (putL f xs i y).length = xs.length := by simp [putL]; omega
theorem putL_get (h : i < xs.length) : (putL f xs i y)[i]? = some y := by
  rw [putL, List.getElem?_append_right (by simp; omega)]
  simp [Nat.min_eq_left (Nat.le_of_lt h)]
theorem putL_set (h : i < xs.length) : (putL f xs i y).set i z = putL f xs i z := by
  rw [putL, List.set_append_right _ _ (by simp; omega), putL]
  simp [Nat.min_eq_left (Nat.le_of_lt h)]
theorem putL_start (hx : xs[i]? = some x) : (xs.take i).map f ++ xs.drop i = putL f xs i x := by
  have hl := lt_of_get hx
  rw [putL, List.drop_eq_getElem_cons hl]
  rw [List.getElem?_eq_getElem hl] at hx
  cases hx; rfl
theorem putL_end (hx : xs[i]? = some x) : putL f xs i (f x) = (xs.take (i + 1)).map f ++ xs.drop (i + 1) := by
  rw [putL, V.take_snoc hx, List.map_append, List.append_assoc]; rfl
end
def sameQ (x : Wt) (r : Rq) : Bool := decide (x.req.client = r.client) && decide (x.req.seq = r.seq)
def mkW (rs : List Rq) (slot : Int) (x : Wt) : Wt := if rs.any (sameQ x) = true then { x with slot := slot } else x
def markW (ws : List Wt) (slot : Int) (rs : List Rq) : List Wt := if slot < 1 then ws else ws.map (mkW rs slot)
theorem mkW_req (rs : List Rq) (slot : Int) (x : Wt) : (mkW rs slot x).req = x.req := by unfold mkW; split <;> rfl
theorem mkW_t {rs : List Rq} {k : Nat} {r : Rq} {slot : Int} {x : Wt} (hr : rs[k]? = some r) (h : sameQ x r = true) : mkW (rs.take (k + 1)) slot x = { mkW (rs.take k) slot x with slot := slot } := by
  have h1 : (rs.take (k + 1)).any (sameQ x) = true := by rw [V.take_snoc hr, List.any_append]; simp [h]
  rw [mkW, if_pos h1, mkW]
  split <;> rfl
theorem mkW_f {rs : List Rq} {k : Nat} {r : Rq} {slot : Int} {x : Wt} (hr : rs[k]? = some r) (h : sameQ x r = false) : mkW (rs.take (k + 1)) slot x = mkW (rs.take k) slot x := by
  have h1 : (rs.take (k + 1)).any (sameQ x) = (rs.take k).any (sameQ x) := by rw [V.take_snoc hr, List.any_append]; simp [h]
  rw [mkW, h1, mkW]
set_option maxHeartbeats 4000000 in
theorem RMark_c {F : Nat → Prop} {q : Nat} {ws : List Wt} {FN : Nat → Prop} {rv : Value} {rs : List Rq} (slot : Int) (w : World) (hN : RPoolA q ws FN w) (hr : Rs F w rv rs) (hd : ∀ b, F b → ¬ FN b) :
    Calls Try.prog 50 #[.pointer (some ⟨q, 0, none⟩), .int .i64 slot, rv] w fun e w' => ∃ FN', e = .returned (.tuple #[]) ∧ SH FN Non w w' [.P FN' (RPoolA q (markW ws slot rs) FN')] := by
  obtain ⟨hl6, v, gp, hA⟩ := hN
  have H := SH.argU (SH.obj (G := Any) hA) hr hd
  have h63 := hr.len63
  refine calls_of_CW Try.func50 rfl Try.ntmps50 (Nat.le_of_ble_eq_true rfl) ?_
  simp only [argE, argFrom, Nat.reduceAdd]
  refine CW.seq (fun K1 h1 => ?_)
  refine CW.seq (fun K2 h2 => ?_)
  refine CW.region ?_
  refine r_move rfl ?_
  refine r_lss rfl rfl rfl ?_
  refine LW.nil ?_
  refine thenE_norm (h2 _ _ ?_); clear h2; try clear K2
  refine CW.cond rfl (fun hc1 => ?_) (fun hc1 => ?_)
  · try simp only [decide_eq_true_eq, decide_eq_false_iff_not, Bool.and_eq_true, Bool.or_eq_true, Bool.and_eq_false_iff, Bool.or_eq_false_iff, Bool.not_eq_true', Bool.not_eq_false', beq_iff_eq, bne_iff_ne, ne_eq, Decidable.not_not] at hc1
    refine CW.ret (thenE_ret (ret0 Try.results50 ?_))
    rw [markW, if_pos hc1]
    obtain ⟨FN', K⟩ := RPoolA.mk hl6 (SH.sel H [0, 1] (by decide) (by rfl))
    exact ⟨_, rfl, K⟩
  · try simp only [decide_eq_true_eq, decide_eq_false_iff_not, Bool.and_eq_true, Bool.or_eq_true, Bool.and_eq_false_iff, Bool.or_eq_false_iff, Bool.not_eq_true', Bool.not_eq_false', beq_iff_eq, bne_iff_ne, ne_eq, Decidable.not_not] at hc1
    refine CW.skip ?_
    refine thenE_norm (h1 _ _ ?_); clear h1; try clear K1
    refine CW.seq (fun K3 h3 => ?_)
    refine CW.region ?_
    refine r_buildSlice0 rfl Try.underlying75 Try.sizeOf128 rfl ?_
    intro b1_0 w1_0 hb1_0 hs1_0 hE1_0 hB1_0
    replace H := SH.call H (SH.fromB hE1_0 hb1_0 hs1_0 hB1_0)
    clear hb1_0 hs1_0 hE1_0 hB1_0
    try dsimp only [replC, List.cons_append, List.nil_append, List.append_nil, agg, cellsL, Value.cells, List.toList_toArray, List.set_cons_zero, List.set_cons_succ, spliceL, List.take_succ_cons, List.take_zero, List.drop_succ_cons, List.drop_zero, List.length_cons, List.length_nil, Nat.reduceAdd, Row.cells, Gr.L, Rep.L, Mem.L, Cm.L, Rq.L, Ent.L, ActP.L, Wt.L] at H
    replace H := SH.row (b := b1_0) (xs := ([] : List Wt)) (n := 0) (cap := 0) H (by (repeat first | exact At.here | apply At.there); done) (by simp only [flat, List.flatMap_cons, List.flatMap_nil, cellsL, agg, List.append_nil, List.cons_append, List.nil_append, List.toList_toArray, Row.cells, Gr.L, Rep.L, Mem.L, Cm.L, Rq.L, Ent.L, ActP.L, Wt.L] <;> rfl) (by intro x hx; first | rfl | (simp at hx; done) | (simp only [List.mem_cons, List.not_mem_nil, or_false] at hx; rcases hx with rfl <;> first | rfl | exact (by first | rfl | assumption | exact Rs.oneC (by first | assumption | exact SH.rsR H (by (repeat first | exact At.here | apply At.there); done) | exact SH.rsO H (by (repeat first | exact At.here | apply At.there); done) | exact (Rs.nil : Rs Non _ _ _)) | (simp only [List.all_cons, List.all_nil, Bool.and_true, Bool.and_eq_true, Row.cells, Gr.L, Rep.L, Mem.L, Cm.L, Rq.L, Ent.L, ActP.L, Wt.L]; (repeat' constructor) <;> first | rfl | assumption | exact Rs.oneC (by first | assumption | exact SH.rsR H (by (repeat first | exact At.here | apply At.there); done) | exact SH.rsO H (by (repeat first | exact At.here | apply At.there); done) | exact (Rs.nil : Rs Non _ _ _)))))) (by rfl) rfl (by decide)
    try dsimp only [replC, List.cons_append, List.nil_append, List.append_nil, agg, cellsL, Value.cells, List.toList_toArray, List.set_cons_zero, List.set_cons_succ, spliceL, List.take_succ_cons, List.take_zero, List.drop_succ_cons, List.drop_zero, List.length_cons, List.length_nil, Nat.reduceAdd, Row.cells, Gr.L, Rep.L, Mem.L, Cm.L, Rq.L, Ent.L, ActP.L, Wt.L] at H
    refine r_move rfl ?_
    refine r_nilCheck rfl rfl ?_
    refine r_fieldAddrO rfl Try.underlying77 rfl Try.sizeOf75 (by decide) (show _ = 0 from rfl) rfl ?_
    refine r_load rfl Try.isAgg75 rfl (by first | exact SH.cellB H (by (repeat first | exact At.here | apply At.there); done) (by rfl) | exact SH.cellI H (by (repeat first | exact At.here | apply At.there); done) (by rfl) | assumption) ?_
    first
      | refine s_append H rfl Try.underlying75 Try.underlying75 Try.type128 rfl (by simp only [upd_get, ev, Nat.reduceEqDiff, ↓reduceIte] <;> rfl) (by simp only [upd_get, ev, Nat.reduceEqDiff, ↓reduceIte] <;> rfl) (by (repeat first | exact At.here | apply At.there); done) (by first | assumption | exact SH.rsR H (by (repeat first | exact At.here | apply At.there); done) | exact SH.rsO H (by (repeat first | exact At.here | apply At.there); done) | exact (Rs.nil : Rs Non _ _ _)) (by rfl) (by rfl) (by first | omega | (simp only [Try.t128, List.length_append, List.length_cons, List.length_nil, List.length_map, maxLen]; omega) | (simp [Try.t128, maxLen]; omega)) (by first | omega | (simp only [Try.t128, List.length_append, List.length_cons, List.length_nil, List.length_map, maxLen]; omega) | (simp [Try.t128, maxLen]; omega)) ?_
      | refine s_appendNil H rfl Try.underlying75 Try.underlying75 Try.type128 rfl rfl (by simp only [upd_get, ev, Nat.reduceEqDiff, ↓reduceIte] <;> rfl) (by first | assumption | exact SH.rsR H (by (repeat first | exact At.here | apply At.there); done) | exact SH.rsO H (by (repeat first | exact At.here | apply At.there); done) | exact (Rs.nil : Rs Non _ _ _)) (by rfl) (by rfl) (by first | omega | (simp only [Try.t128, List.length_append, List.length_cons, List.length_nil, List.length_map, maxLen]; omega) | (simp [Try.t128, maxLen]; omega)) ?_
    clear H
    intro v1_5 w1_5 g1_5 H hN1_5
    try dsimp only [replC, List.cons_append, List.nil_append, List.append_nil] at H
    refine r_assign rfl ?_
    refine LW.nil ?_
    refine thenE_norm ?_
    refine cut (K := K3) [0, 1, 2, 6] (fun σ => ?_)
    simp only [setL, keepE, upd_get, ev, Nat.reduceEqDiff, ↓reduceIte]
    refine h3 _ _ ?_; clear h3; try clear K3
    refine CW.seq (fun K4 h4 => ?_)
    refine CW.seq (fun K5 h5 => ?_)
    refine CW.region ?_
    refine r_assign rfl ?_
    refine LW.nil ?_
    refine thenE_norm (h5 _ _ ?_); clear h5; try clear K5
    refine CW.block ?_
    refine CW.loopR [0, 1, 2, 6] [7] (fun m vs w' => ∃ (i : Nat), vs = [.int .i64 i] ∧ i ≤ ws.length ∧ m = ws.length - i ∧ SH FN Any w w' [.B q 77 [v], .O 128 v ws gp, .R (fun b => F b ∧ b < w.heap.size) rv rs, .O 128 v1_5 ((ws.take i).map (mkW rs slot) ++ ws.drop i) g1_5]) (ws.length) ?_ ?_
    · exact ⟨0, rfl, by omega, by omega, H⟩
    try clear H
    rintro n1 vs1 wL1 σ ⟨i, rfl, hi, rfl, H⟩
    simp only [setL, keepE, upd_get, ev, Nat.reduceEqDiff, ↓reduceIte]
    refine CW.seq (fun K6 h6 => ?_)
    refine CW.seq (fun K7 h7 => ?_)
    have hml : ((ws.take i).map (mkW rs slot) ++ ws.drop i).length = ws.length := by simp; omega
    refine CW.region ?_
    refine r_move rfl ?_
    refine r_move rfl ?_
    first
      | refine r_lenV rfl Try.underlying75 (by simp only [upd_get, ev, Nat.reduceEqDiff, ↓reduceIte] <;> rfl) (by first | assumption | exact SH.rsR H (by (repeat first | exact At.here | apply At.there); done) | exact SH.rsO H (by (repeat first | exact At.here | apply At.there); done) | exact (Rs.nil : Rs Non _ _ _)) ?_
      | refine r_len rfl Try.underlying75 rfl ?_
    refine r_lss rfl rfl rfl ?_
    refine LW.nil ?_
    refine thenE_norm (h7 _ _ ?_); clear h7; try clear K7
    refine CW.cond rfl (fun hc2 => ?_) (fun hc2 => ?_)
    · try simp only [decide_eq_true_eq, decide_eq_false_iff_not, Bool.and_eq_true, Bool.or_eq_true, Bool.and_eq_false_iff, Bool.or_eq_false_iff, Bool.not_eq_true', Bool.not_eq_false', beq_iff_eq, bne_iff_ne, ne_eq, Decidable.not_not] at hc2
      refine CW.skip ?_
      refine thenE_norm (h6 _ _ ?_); clear h6; try clear K6
      refine CW.seq (fun K8 h8 => ?_)
      refine CW.block ?_
      refine CW.seq (fun K9 h9 => ?_)
      obtain ⟨x, hx⟩ := get_of_lt (show i < ws.length by omega)
      have hil := lt_of_get hx
      rw [putL_start hx] at H
      have hend := putL_end (f := mkW rs slot) hx
      refine CW.region ?_
      refine r_assign rfl ?_
      refine LW.nil ?_
      refine thenE_norm (h9 _ _ ?_); clear h9; try clear K9
      refine CW.block ?_
      refine CW.loopR [0, 1, 2, 6, 7] [8] (fun m vs w' => ∃ (k : Nat), vs = [.int .i64 k] ∧ k ≤ rs.length ∧ m = rs.length - k ∧ SH FN Any w w' [.B q 77 [v], .O 128 v ws gp, .R (fun b => F b ∧ b < w.heap.size) rv rs, .O 128 v1_5 (putL (mkW rs slot) ws i (mkW (rs.take k) slot x)) g1_5]) (rs.length) ?_ ?_
      · exact ⟨0, rfl, by omega, by omega, by rw [List.take_zero]; exact H⟩
      try clear H
      rintro n2 vs2 wL2 σ ⟨k, rfl, hk, rfl, H⟩
      simp only [setL, keepE, upd_get, ev, Nat.reduceEqDiff, ↓reduceIte]
      refine CW.seq (fun K10 h10 => ?_)
      refine CW.seq (fun K11 h11 => ?_)
      refine CW.region ?_
      refine r_move rfl ?_
      refine r_move rfl ?_
      first
        | refine r_lenV rfl Try.underlying30 (by simp only [upd_get, ev, Nat.reduceEqDiff, ↓reduceIte] <;> rfl) (by first | assumption | exact SH.rsR H (by (repeat first | exact At.here | apply At.there); done) | exact SH.rsO H (by (repeat first | exact At.here | apply At.there); done) | exact (Rs.nil : Rs Non _ _ _)) ?_
        | refine r_len rfl Try.underlying30 rfl ?_
      refine r_lss rfl rfl rfl ?_
      refine LW.nil ?_
      refine thenE_norm (h11 _ _ ?_); clear h11; try clear K11
      refine CW.cond rfl (fun hc3 => ?_) (fun hc3 => ?_)
      · try simp only [decide_eq_true_eq, decide_eq_false_iff_not, Bool.and_eq_true, Bool.or_eq_true, Bool.and_eq_false_iff, Bool.or_eq_false_iff, Bool.not_eq_true', Bool.not_eq_false', beq_iff_eq, bne_iff_ne, ne_eq, Decidable.not_not] at hc3
        refine CW.skip ?_
        refine thenE_norm (h10 _ _ ?_); clear h10; try clear K10
        refine CW.seq (fun K12 h12 => ?_)
        refine CW.block ?_
        refine CW.seq (fun K13 h13 => ?_)
        obtain ⟨r, hr2⟩ := get_of_lt (show k < rs.length by omega)
        have hpl := putL_len (f := mkW rs slot) (y := mkW (rs.take k) slot x) hil
        have hpg := putL_get (f := mkW rs slot) (y := mkW (rs.take k) slot x) hil
        have hps := putL_set (f := mkW rs slot) (y := mkW (rs.take k) slot x) (z := { mkW (rs.take k) slot x with slot := slot }) hil
        have hrq := mkW_req (rs.take k) slot x
        have hwt := mkW_t (slot := slot) (x := x) hr2
        have hwf := mkW_f (slot := slot) (x := x) hr2
        generalize mkW (rs.take k) slot x = y at *
        generalize hZ : putL (mkW rs slot) ws i y = zs at *
        refine CW.drawH [] H (List.Sublist.refl _) (by kernel_rfl) rfl ?_
        clear H
        intro w8d H
        refine DL.take (i := 0) [] rfl (by kernel_rfl) (by kernel_rfl) (by kernel_rfl) (by kernel_rfl) rfl rfl (fun u H => x_move ) H ?_
        refine DL.take (i := 1) [] rfl (by kernel_rfl) (by kernel_rfl) (by kernel_rfl) (by kernel_rfl) rfl rfl (fun u H => x_move ) H ?_
        refine DL.take (i := 2) [] rfl (by kernel_rfl) (by kernel_rfl) (by kernel_rfl) (by kernel_rfl) rfl rfl (fun u H => x_indexAddrV Try.underlying75 (by simp only [upd_get, ev, Nat.reduceEqDiff, ↓reduceIte] <;> rfl) rfl (by first | assumption | exact SH.rsR H (by (repeat first | exact At.here | apply At.there); done) | exact SH.rsO H (by (repeat first | exact At.here | apply At.there); done) | exact (Rs.nil : Rs Non _ _ _)) (by exact Try.sizeOf128) (by omega) (by omega)) H ?_
        refine DL.take (i := 3) [] rfl (by kernel_rfl) (by kernel_rfl) (by kernel_rfl) (by kernel_rfl) rfl rfl (fun u H => x_fieldAddrO Try.underlying128 rfl Try.sizeOf29 (by decide) (show _ + 0 = _ from rfl) rfl) H ?_
        refine DL.take (i := 4) [] rfl (by kernel_rfl) (by kernel_rfl) (by kernel_rfl) (by kernel_rfl) rfl rfl (fun u H => x_fieldAddrO Try.underlying29 rfl Try.sizeOf3 (by decide) (show _ + 0 = _ from rfl) rfl) H ?_
        refine DL.take (i := 5) [] rfl (by kernel_rfl) (by kernel_rfl) (by kernel_rfl) (by kernel_rfl) rfl rfl (fun u H => x_load Try.isAgg3 rfl (by first | exact Rs.cell (by first | assumption | exact SH.rsR H (by (repeat first | exact At.here | apply At.there); done) | exact SH.rsO H (by (repeat first | exact At.here | apply At.there); done) | exact (Rs.nil : Rs Non _ _ _)) (by assumption) (by rfl) | exact Rs.cell0 (by first | assumption | exact SH.rsR H (by (repeat first | exact At.here | apply At.there); done) | exact SH.rsO H (by (repeat first | exact At.here | apply At.there); done) | exact (Rs.nil : Rs Non _ _ _)) (by assumption) (by rfl) | assumption)) H ?_
        refine DL.take (i := 6) [] rfl (by kernel_rfl) (by kernel_rfl) (by kernel_rfl) (by kernel_rfl) rfl rfl (fun u H => x_move ) H ?_
        refine DL.take (i := 7) [] rfl (by kernel_rfl) (by kernel_rfl) (by kernel_rfl) (by kernel_rfl) rfl rfl (fun u H => x_move ) H ?_
        refine DL.take (i := 8) [] rfl (by kernel_rfl) (by kernel_rfl) (by kernel_rfl) (by kernel_rfl) rfl rfl (fun u H => x_indexAddrV Try.underlying30 (by simp only [upd_get, ev, Nat.reduceEqDiff, ↓reduceIte] <;> rfl) rfl (by first | assumption | exact SH.rsR H (by (repeat first | exact At.here | apply At.there); done) | exact SH.rsO H (by (repeat first | exact At.here | apply At.there); done) | exact (Rs.nil : Rs Non _ _ _)) (by exact Try.sizeOf29) (by omega) (by omega)) H ?_
        refine DL.take (i := 9) [] rfl (by kernel_rfl) (by kernel_rfl) (by kernel_rfl) (by kernel_rfl) rfl rfl (fun u H => x_fieldAddrO Try.underlying29 rfl Try.sizeOf3 (by decide) (show _ + 0 = _ from rfl) rfl) H ?_
        refine DL.take (i := 10) [] rfl (by kernel_rfl) (by kernel_rfl) (by kernel_rfl) (by kernel_rfl) rfl rfl (fun u H => x_load Try.isAgg3 rfl (by first | exact Rs.cell (by first | assumption | exact SH.rsR H (by (repeat first | exact At.here | apply At.there); done) | exact SH.rsO H (by (repeat first | exact At.here | apply At.there); done) | exact (Rs.nil : Rs Non _ _ _)) (by assumption) (by rfl) | exact Rs.cell0 (by first | assumption | exact SH.rsR H (by (repeat first | exact At.here | apply At.there); done) | exact SH.rsO H (by (repeat first | exact At.here | apply At.there); done) | exact (Rs.nil : Rs Non _ _ _)) (by assumption) (by rfl) | assumption)) H ?_
        refine DL.take (i := 11) [] rfl (by kernel_rfl) (by kernel_rfl) (by kernel_rfl) (by kernel_rfl) rfl rfl (fun u H => x_eql rfl rfl) H ?_
        refine DL.take (i := 12) [] rfl (by kernel_rfl) (by kernel_rfl) (by kernel_rfl) (by kernel_rfl) rfl rfl (fun u H => x_move ) H ?_
        refine DL.splitB (t := 41) rfl (fun hg8_12 => ?_) (fun hg8_12 => ?_)
        · have hg8_12P := hg8_12
          try simp only [decide_eq_true_eq, decide_eq_false_iff_not, Bool.and_eq_true, Bool.or_eq_true, Bool.and_eq_false_iff, Bool.or_eq_false_iff, Bool.not_eq_true', Bool.not_eq_false', beq_iff_eq, bne_iff_ne, ne_eq, Decidable.not_not] at hg8_12P
          refine DL.take (i := 13) [] rfl (by kernel_rfl) (by kernel_rfl) (by kernel_rfl) (by kernel_rfl) rfl (wantE rfl rfl hg8_12) (fun u H => x_move ) H ?_
          refine DL.take (i := 14) [] rfl (by kernel_rfl) (by kernel_rfl) (by kernel_rfl) (by kernel_rfl) rfl (wantE rfl rfl hg8_12) (fun u H => x_move ) H ?_
          refine DL.take (i := 15) [] rfl (by kernel_rfl) (by kernel_rfl) (by kernel_rfl) (by kernel_rfl) rfl (wantE rfl rfl hg8_12) (fun u H => x_indexAddrV Try.underlying75 (by simp only [upd_get, ev, Nat.reduceEqDiff, ↓reduceIte] <;> rfl) rfl (by first | assumption | exact SH.rsR H (by (repeat first | exact At.here | apply At.there); done) | exact SH.rsO H (by (repeat first | exact At.here | apply At.there); done) | exact (Rs.nil : Rs Non _ _ _)) (by exact Try.sizeOf128) (by omega) (by omega)) H ?_
          refine DL.take (i := 16) [] rfl (by kernel_rfl) (by kernel_rfl) (by kernel_rfl) (by kernel_rfl) rfl (wantE rfl rfl hg8_12) (fun u H => x_fieldAddrO Try.underlying128 rfl Try.sizeOf29 (by decide) (show _ + 0 = _ from rfl) rfl) H ?_
          refine DL.take (i := 17) [] rfl (by kernel_rfl) (by kernel_rfl) (by kernel_rfl) (by kernel_rfl) rfl (wantE rfl rfl hg8_12) (fun u H => x_fieldAddrO Try.underlying29 rfl Try.sizeOf3 (by decide) (show _ + 1 = _ from rfl) rfl) H ?_
          refine DL.take (i := 18) [] rfl (by kernel_rfl) (by kernel_rfl) (by kernel_rfl) (by kernel_rfl) rfl (wantE rfl rfl hg8_12) (fun u H => x_load Try.isAgg3 rfl (by first | exact Rs.cell (by first | assumption | exact SH.rsR H (by (repeat first | exact At.here | apply At.there); done) | exact SH.rsO H (by (repeat first | exact At.here | apply At.there); done) | exact (Rs.nil : Rs Non _ _ _)) (by assumption) (by rfl) | exact Rs.cell0 (by first | assumption | exact SH.rsR H (by (repeat first | exact At.here | apply At.there); done) | exact SH.rsO H (by (repeat first | exact At.here | apply At.there); done) | exact (Rs.nil : Rs Non _ _ _)) (by assumption) (by rfl) | assumption)) H ?_
          refine DL.take (i := 19) [] rfl (by kernel_rfl) (by kernel_rfl) (by kernel_rfl) (by kernel_rfl) rfl (wantE rfl rfl hg8_12) (fun u H => x_move ) H ?_
          refine DL.take (i := 20) [] rfl (by kernel_rfl) (by kernel_rfl) (by kernel_rfl) (by kernel_rfl) rfl (wantE rfl rfl hg8_12) (fun u H => x_move ) H ?_
          refine DL.take (i := 21) [] rfl (by kernel_rfl) (by kernel_rfl) (by kernel_rfl) (by kernel_rfl) rfl (wantE rfl rfl hg8_12) (fun u H => x_indexAddrV Try.underlying30 (by simp only [upd_get, ev, Nat.reduceEqDiff, ↓reduceIte] <;> rfl) rfl (by first | assumption | exact SH.rsR H (by (repeat first | exact At.here | apply At.there); done) | exact SH.rsO H (by (repeat first | exact At.here | apply At.there); done) | exact (Rs.nil : Rs Non _ _ _)) (by exact Try.sizeOf29) (by omega) (by omega)) H ?_
          refine DL.take (i := 22) [] rfl (by kernel_rfl) (by kernel_rfl) (by kernel_rfl) (by kernel_rfl) rfl (wantE rfl rfl hg8_12) (fun u H => x_fieldAddrO Try.underlying29 rfl Try.sizeOf3 (by decide) (show _ + 1 = _ from rfl) rfl) H ?_
          refine DL.take (i := 23) [] rfl (by kernel_rfl) (by kernel_rfl) (by kernel_rfl) (by kernel_rfl) rfl (wantE rfl rfl hg8_12) (fun u H => x_load Try.isAgg3 rfl (by first | exact Rs.cell (by first | assumption | exact SH.rsR H (by (repeat first | exact At.here | apply At.there); done) | exact SH.rsO H (by (repeat first | exact At.here | apply At.there); done) | exact (Rs.nil : Rs Non _ _ _)) (by assumption) (by rfl) | exact Rs.cell0 (by first | assumption | exact SH.rsR H (by (repeat first | exact At.here | apply At.there); done) | exact SH.rsO H (by (repeat first | exact At.here | apply At.there); done) | exact (Rs.nil : Rs Non _ _ _)) (by assumption) (by rfl) | assumption)) H ?_
          refine DL.take (i := 24) [] rfl (by kernel_rfl) (by kernel_rfl) (by kernel_rfl) (by kernel_rfl) rfl (wantE rfl rfl hg8_12) (fun u H => x_eql rfl rfl) H ?_
          refine DL.take (i := 25) [] rfl (by kernel_rfl) (by kernel_rfl) (by kernel_rfl) (by kernel_rfl) rfl rfl (fun u H => x_pickT rfl hg8_12) H ?_
          refine DL.done (by kernel_rfl) ?_
          refine thenE_norm ?_
          refine cut (K := K13) [0, 1, 2, 6, 7, 8, 54] (fun σ => ?_)
          simp only [setL, keepE, upd_get, ev, Nat.reduceEqDiff, ↓reduceIte]
          refine h13 _ _ ?_; clear h13; try clear K13
          refine CW.cond rfl (fun hc4 => ?_) (fun hc4 => ?_)
          · try simp only [decide_eq_true_eq, decide_eq_false_iff_not, Bool.and_eq_true, Bool.or_eq_true, Bool.and_eq_false_iff, Bool.or_eq_false_iff, Bool.not_eq_true', Bool.not_eq_false', beq_iff_eq, bne_iff_ne, ne_eq, Decidable.not_not] at hc4
            refine CW.region ?_
            refine r_move rfl ?_
            refine r_move rfl ?_
            refine r_move rfl ?_
            refine r_indexAddrV rfl Try.underlying75 (by simp only [upd_get, ev, Nat.reduceEqDiff, ↓reduceIte] <;> rfl) rfl (by first | assumption | exact SH.rsR H (by (repeat first | exact At.here | apply At.there); done) | exact SH.rsO H (by (repeat first | exact At.here | apply At.there); done) | exact (Rs.nil : Rs Non _ _ _)) (by exact Try.sizeOf128) (by omega) (by omega) ?_
            refine r_fieldAddrO rfl Try.underlying128 rfl Try.sizeOf3 (by decide) (show _ + 6 = _ from rfl) rfl ?_
            refine s_storeR (o := 6) (x1 := { y with slot := slot }) H Try.sizeOf3 rfl (by simp only [upd_get, ev, Nat.reduceEqDiff, ↓reduceIte] <;> rfl) (by first | rfl | assumption | exact Rs.oneC (by first | assumption | exact SH.rsR H (by (repeat first | exact At.here | apply At.there); done) | exact SH.rsO H (by (repeat first | exact At.here | apply At.there); done) | exact (Rs.nil : Rs Non _ _ _)) | (simp only [List.all_cons, List.all_nil, Bool.and_true, Bool.and_eq_true, Row.cells, Gr.L, Rep.L, Mem.L, Cm.L, Rq.L, Ent.L, ActP.L, Wt.L]; (repeat' constructor) <;> first | rfl | assumption | exact Rs.oneC (by first | assumption | exact SH.rsR H (by (repeat first | exact At.here | apply At.there); done) | exact SH.rsO H (by (repeat first | exact At.here | apply At.there); done) | exact (Rs.nil : Rs Non _ _ _)))) (by (repeat first | exact At.here | apply At.there); done) (by assumption) (by rfl) (by rfl) (by rfl) (by first | rfl | assumption | exact Rs.oneC (by first | assumption | exact SH.rsR H (by (repeat first | exact At.here | apply At.there); done) | exact SH.rsO H (by (repeat first | exact At.here | apply At.there); done) | exact (Rs.nil : Rs Non _ _ _)) | (simp only [List.all_cons, List.all_nil, Bool.and_true, Bool.and_eq_true, Row.cells, Gr.L, Rep.L, Mem.L, Cm.L, Rq.L, Ent.L, ActP.L, Wt.L]; (repeat' constructor) <;> first | rfl | assumption | exact Rs.oneC (by first | assumption | exact SH.rsR H (by (repeat first | exact At.here | apply At.there); done) | exact SH.rsO H (by (repeat first | exact At.here | apply At.there); done) | exact (Rs.nil : Rs Non _ _ _)))) ?_
            clear H
            intro w9_5 H
            try dsimp only [replC, List.cons_append, List.nil_append, List.append_nil, agg, cellsL, Value.cells, List.toList_toArray, List.set_cons_zero, List.set_cons_succ, spliceL, List.take_succ_cons, List.take_zero, List.drop_succ_cons, List.drop_zero, List.length_cons, List.length_nil, Nat.reduceAdd, Row.cells, Gr.L, Rep.L, Mem.L, Cm.L, Rq.L, Ent.L, ActP.L, Wt.L] at H
            refine LW.nil ?_
            refine blockE_norm ?_
            refine thenE_norm (h12 _ _ ?_); clear h12; try clear K12
            refine CW.region ?_
            refine r_move rfl ?_
            refine r_add rfl rfl rfl (wr_i64 (by omega) (by omega)) ?_
            refine r_assign rfl ?_
            refine LW.nil ?_
            refine thenE_norm ⟨rfl, ?_⟩
            first
              | exact Bool.noConfusion hc4
              | exact ⟨rs.length - (k + 1), by omega, k + 1, rfl, by omega, rfl, by rw [hwt (by rw [sameQ, decide_eq_true (by rw [← hrq]; omega), decide_eq_true (by rw [← hrq]; omega)]; rfl), ← hps]; exact H⟩
          · try simp only [decide_eq_true_eq, decide_eq_false_iff_not, Bool.and_eq_true, Bool.or_eq_true, Bool.and_eq_false_iff, Bool.or_eq_false_iff, Bool.not_eq_true', Bool.not_eq_false', beq_iff_eq, bne_iff_ne, ne_eq, Decidable.not_not] at hc4
            refine CW.skip ?_
            refine blockE_norm ?_
            refine thenE_norm (h12 _ _ ?_); clear h12; try clear K12
            refine CW.region ?_
            refine r_move rfl ?_
            refine r_add rfl rfl rfl (wr_i64 (by omega) (by omega)) ?_
            refine r_assign rfl ?_
            refine LW.nil ?_
            refine thenE_norm ⟨rfl, ?_⟩
            exact ⟨rs.length - (k + 1), by omega, k + 1, rfl, by omega, rfl, by rw [hwf (by rw [sameQ, Bool.and_eq_false_iff, decide_eq_false_iff_not, decide_eq_false_iff_not, ← hrq]; omega), hZ]; exact H⟩
        · have hg8_12P := hg8_12
          try simp only [decide_eq_true_eq, decide_eq_false_iff_not, Bool.and_eq_true, Bool.or_eq_true, Bool.and_eq_false_iff, Bool.or_eq_false_iff, Bool.not_eq_true', Bool.not_eq_false', beq_iff_eq, bne_iff_ne, ne_eq, Decidable.not_not] at hg8_12P
          refine DL.skip (i := 13) [] rfl (by kernel_rfl) (by kernel_rfl) (by kernel_rfl) (by kernel_rfl) rfl (skipE rfl rfl hg8_12) H ?_
          refine DL.skip (i := 14) [] rfl (by kernel_rfl) (by kernel_rfl) (by kernel_rfl) (by kernel_rfl) rfl (skipE rfl rfl hg8_12) H ?_
          refine DL.skip (i := 15) [] rfl (by kernel_rfl) (by kernel_rfl) (by kernel_rfl) (by kernel_rfl) rfl (skipE rfl rfl hg8_12) H ?_
          refine DL.skip (i := 16) [] rfl (by kernel_rfl) (by kernel_rfl) (by kernel_rfl) (by kernel_rfl) rfl (skipE rfl rfl hg8_12) H ?_
          refine DL.skip (i := 17) [] rfl (by kernel_rfl) (by kernel_rfl) (by kernel_rfl) (by kernel_rfl) rfl (skipE rfl rfl hg8_12) H ?_
          refine DL.skip (i := 18) [] rfl (by kernel_rfl) (by kernel_rfl) (by kernel_rfl) (by kernel_rfl) rfl (skipE rfl rfl hg8_12) H ?_
          refine DL.skip (i := 19) [] rfl (by kernel_rfl) (by kernel_rfl) (by kernel_rfl) (by kernel_rfl) rfl (skipE rfl rfl hg8_12) H ?_
          refine DL.skip (i := 20) [] rfl (by kernel_rfl) (by kernel_rfl) (by kernel_rfl) (by kernel_rfl) rfl (skipE rfl rfl hg8_12) H ?_
          refine DL.skip (i := 21) [] rfl (by kernel_rfl) (by kernel_rfl) (by kernel_rfl) (by kernel_rfl) rfl (skipE rfl rfl hg8_12) H ?_
          refine DL.skip (i := 22) [] rfl (by kernel_rfl) (by kernel_rfl) (by kernel_rfl) (by kernel_rfl) rfl (skipE rfl rfl hg8_12) H ?_
          refine DL.skip (i := 23) [] rfl (by kernel_rfl) (by kernel_rfl) (by kernel_rfl) (by kernel_rfl) rfl (skipE rfl rfl hg8_12) H ?_
          refine DL.skip (i := 24) [] rfl (by kernel_rfl) (by kernel_rfl) (by kernel_rfl) (by kernel_rfl) rfl (skipE rfl rfl hg8_12) H ?_
          refine DL.take (i := 25) [] rfl (by kernel_rfl) (by kernel_rfl) (by kernel_rfl) (by kernel_rfl) rfl rfl (fun u H => x_pickF rfl hg8_12) H ?_
          refine DL.done (by kernel_rfl) ?_
          refine thenE_norm ?_
          refine cut (K := K13) [0, 1, 2, 6, 7, 8, 54] (fun σ => ?_)
          simp only [setL, keepE, upd_get, ev, Nat.reduceEqDiff, ↓reduceIte]
          refine h13 _ _ ?_; clear h13; try clear K13
          refine CW.cond rfl (fun hc4 => ?_) (fun hc4 => ?_)
          · try simp only [decide_eq_true_eq, decide_eq_false_iff_not, Bool.and_eq_true, Bool.or_eq_true, Bool.and_eq_false_iff, Bool.or_eq_false_iff, Bool.not_eq_true', Bool.not_eq_false', beq_iff_eq, bne_iff_ne, ne_eq, Decidable.not_not] at hc4
            refine CW.region ?_
            refine r_move rfl ?_
            refine r_move rfl ?_
            refine r_move rfl ?_
            refine r_indexAddrV rfl Try.underlying75 (by simp only [upd_get, ev, Nat.reduceEqDiff, ↓reduceIte] <;> rfl) rfl (by first | assumption | exact SH.rsR H (by (repeat first | exact At.here | apply At.there); done) | exact SH.rsO H (by (repeat first | exact At.here | apply At.there); done) | exact (Rs.nil : Rs Non _ _ _)) (by exact Try.sizeOf128) (by omega) (by omega) ?_
            refine r_fieldAddrO rfl Try.underlying128 rfl Try.sizeOf3 (by decide) (show _ + 6 = _ from rfl) rfl ?_
            refine s_storeR (o := 6) (x1 := { y with slot := slot }) H Try.sizeOf3 rfl (by simp only [upd_get, ev, Nat.reduceEqDiff, ↓reduceIte] <;> rfl) (by first | rfl | assumption | exact Rs.oneC (by first | assumption | exact SH.rsR H (by (repeat first | exact At.here | apply At.there); done) | exact SH.rsO H (by (repeat first | exact At.here | apply At.there); done) | exact (Rs.nil : Rs Non _ _ _)) | (simp only [List.all_cons, List.all_nil, Bool.and_true, Bool.and_eq_true, Row.cells, Gr.L, Rep.L, Mem.L, Cm.L, Rq.L, Ent.L, ActP.L, Wt.L]; (repeat' constructor) <;> first | rfl | assumption | exact Rs.oneC (by first | assumption | exact SH.rsR H (by (repeat first | exact At.here | apply At.there); done) | exact SH.rsO H (by (repeat first | exact At.here | apply At.there); done) | exact (Rs.nil : Rs Non _ _ _)))) (by (repeat first | exact At.here | apply At.there); done) (by assumption) (by rfl) (by rfl) (by rfl) (by first | rfl | assumption | exact Rs.oneC (by first | assumption | exact SH.rsR H (by (repeat first | exact At.here | apply At.there); done) | exact SH.rsO H (by (repeat first | exact At.here | apply At.there); done) | exact (Rs.nil : Rs Non _ _ _)) | (simp only [List.all_cons, List.all_nil, Bool.and_true, Bool.and_eq_true, Row.cells, Gr.L, Rep.L, Mem.L, Cm.L, Rq.L, Ent.L, ActP.L, Wt.L]; (repeat' constructor) <;> first | rfl | assumption | exact Rs.oneC (by first | assumption | exact SH.rsR H (by (repeat first | exact At.here | apply At.there); done) | exact SH.rsO H (by (repeat first | exact At.here | apply At.there); done) | exact (Rs.nil : Rs Non _ _ _)))) ?_
            clear H
            intro w9_5 H
            try dsimp only [replC, List.cons_append, List.nil_append, List.append_nil, agg, cellsL, Value.cells, List.toList_toArray, List.set_cons_zero, List.set_cons_succ, spliceL, List.take_succ_cons, List.take_zero, List.drop_succ_cons, List.drop_zero, List.length_cons, List.length_nil, Nat.reduceAdd, Row.cells, Gr.L, Rep.L, Mem.L, Cm.L, Rq.L, Ent.L, ActP.L, Wt.L] at H
            refine LW.nil ?_
            refine blockE_norm ?_
            refine thenE_norm (h12 _ _ ?_); clear h12; try clear K12
            refine CW.region ?_
            refine r_move rfl ?_
            refine r_add rfl rfl rfl (wr_i64 (by omega) (by omega)) ?_
            refine r_assign rfl ?_
            refine LW.nil ?_
            refine thenE_norm ⟨rfl, ?_⟩
            first
              | exact Bool.noConfusion hc4
              | exact ⟨rs.length - (k + 1), by omega, k + 1, rfl, by omega, rfl, by rw [hwt (by rw [sameQ, decide_eq_true (by rw [← hrq]; omega), decide_eq_true (by rw [← hrq]; omega)]; rfl), ← hps]; exact H⟩
          · try simp only [decide_eq_true_eq, decide_eq_false_iff_not, Bool.and_eq_true, Bool.or_eq_true, Bool.and_eq_false_iff, Bool.or_eq_false_iff, Bool.not_eq_true', Bool.not_eq_false', beq_iff_eq, bne_iff_ne, ne_eq, Decidable.not_not] at hc4
            refine CW.skip ?_
            refine blockE_norm ?_
            refine thenE_norm (h12 _ _ ?_); clear h12; try clear K12
            refine CW.region ?_
            refine r_move rfl ?_
            refine r_add rfl rfl rfl (wr_i64 (by omega) (by omega)) ?_
            refine r_assign rfl ?_
            refine LW.nil ?_
            refine thenE_norm ⟨rfl, ?_⟩
            exact ⟨rs.length - (k + 1), by omega, k + 1, rfl, by omega, rfl, by rw [hwf (by rw [sameQ, Bool.and_eq_false_iff, decide_eq_false_iff_not, decide_eq_false_iff_not, ← hrq]; omega), hZ]; exact H⟩
      · try simp only [decide_eq_true_eq, decide_eq_false_iff_not, Bool.and_eq_true, Bool.or_eq_true, Bool.and_eq_false_iff, Bool.or_eq_false_iff, Bool.not_eq_true', Bool.not_eq_false', beq_iff_eq, bne_iff_ne, ne_eq, Decidable.not_not] at hc3
        refine CW.exit (thenE_exit (thenE_exit (blockE_hit ?_)))
        refine blockE_norm ?_
        refine thenE_norm (h8 _ _ ?_); clear h8; try clear K8
        refine CW.region ?_
        refine r_move rfl ?_
        refine r_add rfl rfl rfl (wr_i64 (by omega) (by omega)) ?_
        refine r_assign rfl ?_
        refine LW.nil ?_
        refine thenE_norm ⟨rfl, ?_⟩
        obtain rfl : k = rs.length := by omega
        rw [List.take_length, hend] at H
        exact ⟨ws.length - (i + 1), by omega, i + 1, rfl, by omega, rfl, H⟩
    · try simp only [decide_eq_true_eq, decide_eq_false_iff_not, Bool.and_eq_true, Bool.or_eq_true, Bool.and_eq_false_iff, Bool.or_eq_false_iff, Bool.not_eq_true', Bool.not_eq_false', beq_iff_eq, bne_iff_ne, ne_eq, Decidable.not_not] at hc2
      refine CW.exit (thenE_exit (thenE_exit (blockE_hit ?_)))
      refine thenE_norm (h4 _ _ ?_); clear h4; try clear K4
      obtain rfl : i = ws.length := by
        have hml : ((ws.take i).map (mkW rs slot) ++ ws.drop i).length = ws.length := by simp; omega
        omega
      rw [List.take_length, List.drop_length, List.append_nil] at H
      refine CW.region ?_
      refine r_move rfl ?_
      refine r_move rfl ?_
      refine r_nilCheck rfl rfl ?_
      refine r_fieldAddrO rfl Try.underlying77 rfl Try.sizeOf75 (by decide) (show _ = 0 from rfl) rfl ?_
      refine s_store H Try.sizeOf75 rfl (by simp only [upd_get, ev, Nat.reduceEqDiff, ↓reduceIte] <;> rfl) (by first | rfl | assumption | exact Rs.oneC (by first | assumption | exact SH.rsR H (by (repeat first | exact At.here | apply At.there); done) | exact SH.rsO H (by (repeat first | exact At.here | apply At.there); done) | exact (Rs.nil : Rs Non _ _ _)) | (simp only [List.all_cons, List.all_nil, Bool.and_true, Bool.and_eq_true, Row.cells, Gr.L, Rep.L, Mem.L, Cm.L, Rq.L, Ent.L, ActP.L, Wt.L]; (repeat' constructor) <;> first | rfl | assumption | exact Rs.oneC (by first | assumption | exact SH.rsR H (by (repeat first | exact At.here | apply At.there); done) | exact SH.rsO H (by (repeat first | exact At.here | apply At.there); done) | exact (Rs.nil : Rs Non _ _ _)))) (by (repeat first | exact At.here | apply At.there); done) (by first | (simp; done) | decide | omega) ?_
      clear H
      intro w10_4 H
      try dsimp only [replC, List.cons_append, List.nil_append, List.append_nil, agg, cellsL, Value.cells, List.toList_toArray, List.set_cons_zero, List.set_cons_succ, spliceL, List.take_succ_cons, List.take_zero, List.drop_succ_cons, List.drop_zero, List.length_cons, List.length_nil, Nat.reduceAdd, Row.cells, Gr.L, Rep.L, Mem.L, Cm.L, Rq.L, Ent.L, ActP.L, Wt.L] at H
      refine LW.nil ?_
      refine end0 Try.results50 ?_
      rw [markW, if_neg hc1]
      obtain ⟨FN', K⟩ := RPoolA.mk (ws := ws.map (mkW rs slot)) (by rw [List.length_map]; exact hl6) (SH.sel H [0, 3] (by decide) (by rfl))
      exact ⟨_, rfl, K⟩
def clrW (x : Wt) : Wt := { x with slot := 0 }
set_option maxHeartbeats 4000000 in
theorem RClear_c {q : Nat} {ws : List Wt} {FN : Nat → Prop} (w : World) (hN : RPoolA q ws FN w) :
    Calls Try.prog 51 #[.pointer (some ⟨q, 0, none⟩)] w fun e w' => ∃ FN', e = .returned (.tuple #[]) ∧ SH FN Non w w' [.P FN' (RPoolA q (ws.map clrW) FN')] := by
  obtain ⟨hl6, v, gp, hA⟩ := hN
  have H := SH.obj (G := Any) hA
  refine calls_of_CW Try.func51 rfl Try.ntmps51 (Nat.le_of_ble_eq_true rfl) ?_
  simp only [argE, argFrom, Nat.reduceAdd]
  refine CW.seq (fun K1 h1 => ?_)
  refine CW.region ?_
  refine r_buildSlice0 rfl Try.underlying75 Try.sizeOf128 rfl ?_
  intro b0_0 w0_0 hb0_0 hs0_0 hE0_0 hB0_0
  replace H := SH.call H (SH.fromB hE0_0 hb0_0 hs0_0 hB0_0)
  clear hb0_0 hs0_0 hE0_0 hB0_0
  try dsimp only [replC, List.cons_append, List.nil_append, List.append_nil, agg, cellsL, Value.cells, List.toList_toArray, List.set_cons_zero, List.set_cons_succ, spliceL, List.take_succ_cons, List.take_zero, List.drop_succ_cons, List.drop_zero, List.length_cons, List.length_nil, Nat.reduceAdd, Row.cells, Gr.L, Rep.L, Mem.L, Cm.L, Rq.L, Ent.L, ActP.L, Wt.L] at H
  replace H := SH.row (b := b0_0) (xs := ([] : List Wt)) (n := 0) (cap := 0) H (by (repeat first | exact At.here | apply At.there); done) (by simp only [flat, List.flatMap_cons, List.flatMap_nil, cellsL, agg, List.append_nil, List.cons_append, List.nil_append, List.toList_toArray, Row.cells, Gr.L, Rep.L, Mem.L, Cm.L, Rq.L, Ent.L, ActP.L, Wt.L] <;> rfl) (by intro x hx; first | rfl | (simp at hx; done) | (simp only [List.mem_cons, List.not_mem_nil, or_false] at hx; rcases hx with rfl <;> first | rfl | exact (by first | rfl | assumption | exact Rs.oneC (by first | assumption | exact SH.rsR H (by (repeat first | exact At.here | apply At.there); done) | exact SH.rsO H (by (repeat first | exact At.here | apply At.there); done) | exact (Rs.nil : Rs Non _ _ _)) | (simp only [List.all_cons, List.all_nil, Bool.and_true, Bool.and_eq_true, Row.cells, Gr.L, Rep.L, Mem.L, Cm.L, Rq.L, Ent.L, ActP.L, Wt.L]; (repeat' constructor) <;> first | rfl | assumption | exact Rs.oneC (by first | assumption | exact SH.rsR H (by (repeat first | exact At.here | apply At.there); done) | exact SH.rsO H (by (repeat first | exact At.here | apply At.there); done) | exact (Rs.nil : Rs Non _ _ _)))))) (by rfl) rfl (by decide)
  try dsimp only [replC, List.cons_append, List.nil_append, List.append_nil, agg, cellsL, Value.cells, List.toList_toArray, List.set_cons_zero, List.set_cons_succ, spliceL, List.take_succ_cons, List.take_zero, List.drop_succ_cons, List.drop_zero, List.length_cons, List.length_nil, Nat.reduceAdd, Row.cells, Gr.L, Rep.L, Mem.L, Cm.L, Rq.L, Ent.L, ActP.L, Wt.L] at H
  refine r_move rfl ?_
  refine r_nilCheck rfl rfl ?_
  refine r_fieldAddrO rfl Try.underlying77 rfl Try.sizeOf75 (by decide) (show _ = 0 from rfl) rfl ?_
  refine r_load rfl Try.isAgg75 rfl (by first | exact SH.cellB H (by (repeat first | exact At.here | apply At.there); done) (by rfl) | exact SH.cellI H (by (repeat first | exact At.here | apply At.there); done) (by rfl) | assumption) ?_
  first
    | refine s_append H rfl Try.underlying75 Try.underlying75 Try.type128 rfl (by simp only [upd_get, ev, Nat.reduceEqDiff, ↓reduceIte] <;> rfl) (by simp only [upd_get, ev, Nat.reduceEqDiff, ↓reduceIte] <;> rfl) (by (repeat first | exact At.here | apply At.there); done) (by first | assumption | exact SH.rsR H (by (repeat first | exact At.here | apply At.there); done) | exact SH.rsO H (by (repeat first | exact At.here | apply At.there); done) | exact (Rs.nil : Rs Non _ _ _)) (by rfl) (by rfl) (by first | omega | (simp only [Try.t128, List.length_append, List.length_cons, List.length_nil, List.length_map, maxLen]; omega) | (simp [Try.t128, maxLen]; omega)) (by first | omega | (simp only [Try.t128, List.length_append, List.length_cons, List.length_nil, List.length_map, maxLen]; omega) | (simp [Try.t128, maxLen]; omega)) ?_
    | refine s_appendNil H rfl Try.underlying75 Try.underlying75 Try.type128 rfl rfl (by simp only [upd_get, ev, Nat.reduceEqDiff, ↓reduceIte] <;> rfl) (by first | assumption | exact SH.rsR H (by (repeat first | exact At.here | apply At.there); done) | exact SH.rsO H (by (repeat first | exact At.here | apply At.there); done) | exact (Rs.nil : Rs Non _ _ _)) (by rfl) (by rfl) (by first | omega | (simp only [Try.t128, List.length_append, List.length_cons, List.length_nil, List.length_map, maxLen]; omega) | (simp [Try.t128, maxLen]; omega)) ?_
  clear H
  intro v0_5 w0_5 g0_5 H hN0_5
  try dsimp only [replC, List.cons_append, List.nil_append, List.append_nil] at H
  refine r_assign rfl ?_
  refine LW.nil ?_
  refine thenE_norm (h1 _ _ ?_); clear h1; try clear K1
  refine CW.seq (fun K2 h2 => ?_)
  refine CW.seq (fun K3 h3 => ?_)
  refine CW.region ?_
  refine r_assign rfl ?_
  refine LW.nil ?_
  refine thenE_norm ?_
  refine cut (K := K3) [0, 2, 3] (fun σ => ?_)
  simp only [setL, keepE, upd_get, ev, Nat.reduceEqDiff, ↓reduceIte]
  refine h3 _ _ ?_; clear h3; try clear K3
  refine CW.block ?_
  refine CW.loopR [0, 2] [3] (fun m vs w' => ∃ (i : Nat), vs = [.int .i64 i] ∧ i ≤ ws.length ∧ m = ws.length - i ∧ SH FN Any w w' [.B q 77 [v], .O 128 v ws gp, .O 128 v0_5 ((ws.take i).map clrW ++ ws.drop i) g0_5]) (ws.length) ?_ ?_
  · exact ⟨0, rfl, by omega, by omega, H⟩
  try clear H
  rintro n1 vs1 wL1 σ ⟨i, rfl, hi, rfl, H⟩
  simp only [setL, keepE, upd_get, ev, Nat.reduceEqDiff, ↓reduceIte]
  refine CW.seq (fun K4 h4 => ?_)
  refine CW.seq (fun K5 h5 => ?_)
  have hml : ((ws.take i).map clrW ++ ws.drop i).length = ws.length := by simp; omega
  refine CW.region ?_
  refine r_move rfl ?_
  refine r_move rfl ?_
  first
    | refine r_lenV rfl Try.underlying75 (by simp only [upd_get, ev, Nat.reduceEqDiff, ↓reduceIte] <;> rfl) (by first | assumption | exact SH.rsR H (by (repeat first | exact At.here | apply At.there); done) | exact SH.rsO H (by (repeat first | exact At.here | apply At.there); done) | exact (Rs.nil : Rs Non _ _ _)) ?_
    | refine r_len rfl Try.underlying75 rfl ?_
  refine r_lss rfl rfl rfl ?_
  refine LW.nil ?_
  refine thenE_norm (h5 _ _ ?_); clear h5; try clear K5
  refine CW.cond rfl (fun hc1 => ?_) (fun hc1 => ?_)
  · try simp only [decide_eq_true_eq, decide_eq_false_iff_not, Bool.and_eq_true, Bool.or_eq_true, Bool.and_eq_false_iff, Bool.or_eq_false_iff, Bool.not_eq_true', Bool.not_eq_false', beq_iff_eq, bne_iff_ne, ne_eq, Decidable.not_not] at hc1
    refine CW.skip ?_
    refine thenE_norm (h4 _ _ ?_); clear h4; try clear K4
    refine CW.seq (fun K6 h6 => ?_)
    refine CW.block ?_
    obtain ⟨x, hx⟩ := get_of_lt (show i < ws.length by omega)
    have hil := lt_of_get hx
    rw [putL_start hx] at H
    have hend := putL_end (f := clrW) hx
    have hpl := putL_len (f := clrW) (y := x) hil
    have hpg := putL_get (f := clrW) (y := x) hil
    have hps := putL_set (f := clrW) (y := x) (z := clrW x) hil
    generalize putL clrW ws i x = zs at *
    refine CW.region ?_
    refine r_move rfl ?_
    refine r_move rfl ?_
    refine r_indexAddrV rfl Try.underlying75 (by simp only [upd_get, ev, Nat.reduceEqDiff, ↓reduceIte] <;> rfl) rfl (by first | assumption | exact SH.rsR H (by (repeat first | exact At.here | apply At.there); done) | exact SH.rsO H (by (repeat first | exact At.here | apply At.there); done) | exact (Rs.nil : Rs Non _ _ _)) (by exact Try.sizeOf128) (by omega) (by omega) ?_
    refine r_fieldAddrO rfl Try.underlying128 rfl Try.sizeOf3 (by decide) (show _ + 6 = _ from rfl) rfl ?_
    refine s_storeR (o := 6) (x1 := clrW x) H Try.sizeOf3 rfl (by simp only [upd_get, ev, Nat.reduceEqDiff, ↓reduceIte] <;> rfl) (by first | rfl | assumption | exact Rs.oneC (by first | assumption | exact SH.rsR H (by (repeat first | exact At.here | apply At.there); done) | exact SH.rsO H (by (repeat first | exact At.here | apply At.there); done) | exact (Rs.nil : Rs Non _ _ _)) | (simp only [List.all_cons, List.all_nil, Bool.and_true, Bool.and_eq_true, Row.cells, Gr.L, Rep.L, Mem.L, Cm.L, Rq.L, Ent.L, ActP.L, Wt.L]; (repeat' constructor) <;> first | rfl | assumption | exact Rs.oneC (by first | assumption | exact SH.rsR H (by (repeat first | exact At.here | apply At.there); done) | exact SH.rsO H (by (repeat first | exact At.here | apply At.there); done) | exact (Rs.nil : Rs Non _ _ _)))) (by (repeat first | exact At.here | apply At.there); done) (by assumption) (by rfl) (by rfl) (by rfl) (by first | rfl | assumption | exact Rs.oneC (by first | assumption | exact SH.rsR H (by (repeat first | exact At.here | apply At.there); done) | exact SH.rsO H (by (repeat first | exact At.here | apply At.there); done) | exact (Rs.nil : Rs Non _ _ _)) | (simp only [List.all_cons, List.all_nil, Bool.and_true, Bool.and_eq_true, Row.cells, Gr.L, Rep.L, Mem.L, Cm.L, Rq.L, Ent.L, ActP.L, Wt.L]; (repeat' constructor) <;> first | rfl | assumption | exact Rs.oneC (by first | assumption | exact SH.rsR H (by (repeat first | exact At.here | apply At.there); done) | exact SH.rsO H (by (repeat first | exact At.here | apply At.there); done) | exact (Rs.nil : Rs Non _ _ _)))) ?_
    clear H
    intro w4_4 H
    try dsimp only [replC, List.cons_append, List.nil_append, List.append_nil, agg, cellsL, Value.cells, List.toList_toArray, List.set_cons_zero, List.set_cons_succ, spliceL, List.take_succ_cons, List.take_zero, List.drop_succ_cons, List.drop_zero, List.length_cons, List.length_nil, Nat.reduceAdd, Row.cells, Gr.L, Rep.L, Mem.L, Cm.L, Rq.L, Ent.L, ActP.L, Wt.L] at H
    refine LW.nil ?_
    refine blockE_norm ?_
    refine thenE_norm (h6 _ _ ?_); clear h6; try clear K6
    refine CW.region ?_
    refine r_move rfl ?_
    refine r_add rfl rfl rfl (wr_i64 (by omega) (by omega)) ?_
    refine r_assign rfl ?_
    refine LW.nil ?_
    refine thenE_norm ⟨rfl, ?_⟩
    exact ⟨ws.length - (i + 1), by omega, i + 1, rfl, by omega, rfl, by rw [← hend, ← hps]; exact H⟩
  · try simp only [decide_eq_true_eq, decide_eq_false_iff_not, Bool.and_eq_true, Bool.or_eq_true, Bool.and_eq_false_iff, Bool.or_eq_false_iff, Bool.not_eq_true', Bool.not_eq_false', beq_iff_eq, bne_iff_ne, ne_eq, Decidable.not_not] at hc1
    refine CW.exit (thenE_exit (thenE_exit (blockE_hit ?_)))
    refine thenE_norm (h2 _ _ ?_); clear h2; try clear K2
    obtain rfl : i = ws.length := by
      have hml : ((ws.take i).map clrW ++ ws.drop i).length = ws.length := by simp; omega
      omega
    rw [List.take_length, List.drop_length, List.append_nil] at H
    refine CW.region ?_
    refine r_move rfl ?_
    refine r_move rfl ?_
    refine r_nilCheck rfl rfl ?_
    refine r_fieldAddrO rfl Try.underlying77 rfl Try.sizeOf75 (by decide) (show _ = 0 from rfl) rfl ?_
    refine s_store H Try.sizeOf75 rfl (by simp only [upd_get, ev, Nat.reduceEqDiff, ↓reduceIte] <;> rfl) (by first | rfl | assumption | exact Rs.oneC (by first | assumption | exact SH.rsR H (by (repeat first | exact At.here | apply At.there); done) | exact SH.rsO H (by (repeat first | exact At.here | apply At.there); done) | exact (Rs.nil : Rs Non _ _ _)) | (simp only [List.all_cons, List.all_nil, Bool.and_true, Bool.and_eq_true, Row.cells, Gr.L, Rep.L, Mem.L, Cm.L, Rq.L, Ent.L, ActP.L, Wt.L]; (repeat' constructor) <;> first | rfl | assumption | exact Rs.oneC (by first | assumption | exact SH.rsR H (by (repeat first | exact At.here | apply At.there); done) | exact SH.rsO H (by (repeat first | exact At.here | apply At.there); done) | exact (Rs.nil : Rs Non _ _ _)))) (by (repeat first | exact At.here | apply At.there); done) (by first | (simp; done) | decide | omega) ?_
    clear H
    intro w5_4 H
    try dsimp only [replC, List.cons_append, List.nil_append, List.append_nil, agg, cellsL, Value.cells, List.toList_toArray, List.set_cons_zero, List.set_cons_succ, spliceL, List.take_succ_cons, List.take_zero, List.drop_succ_cons, List.drop_zero, List.length_cons, List.length_nil, Nat.reduceAdd, Row.cells, Gr.L, Rep.L, Mem.L, Cm.L, Rq.L, Ent.L, ActP.L, Wt.L] at H
    refine LW.nil ?_
    refine end0 Try.results51 ?_
    obtain ⟨FN', K⟩ := RPoolA.mk (ws := ws.map clrW) (by rw [List.length_map]; exact hl6) (SH.sel H [0, 2] (by decide) (by rfl))
    exact ⟨_, rfl, K⟩
def isNewW (view : Int) (x : Wt) : Bool := !x.told || decide (x.view ≠ view)
def toldW (view : Int) (x : Wt) : Wt := if isNewW view x = true then { x with told := true, view := view } else x
def newW (ws : List Wt) (view : Int) : List Rq := (ws.filter (isNewW view)).map Wt.req
theorem newW_snoc {ws : List Wt} {i : Nat} {x : Wt} (view : Int) (hx : ws[i]? = some x) : newW (ws.take (i + 1)) view = newW (ws.take i) view ++ (if isNewW view x = true then [x.req] else []) := by
  rw [newW, filter_snoc hx, List.map_append, ← newW]
  by_cases h : isNewW view x = true <;> simp [h]
set_option maxHeartbeats 4000000 in
theorem RFresh_c {q : Nat} {ws : List Wt} {FN : Nat → Prop} (view : Int) (w : World) (hN : RPoolA q ws FN w) :
    Calls Try.prog 53 #[.pointer (some ⟨q, 0, none⟩), .int .i64 view] w fun e w' => ∃ v' g' FN', e = .returned v' ∧ SH FN Non w w' [.P FN' (RPoolA q (ws.map (toldW view)) FN'), .O 29 v' (newW ws view) g'] := by
  obtain ⟨hl6, v, gp, hA⟩ := hN
  have H := SH.obj (G := Any) hA
  refine calls_of_CW Try.func53 rfl Try.ntmps53 (Nat.le_of_ble_eq_true rfl) ?_
  simp only [argE, argFrom, Nat.reduceAdd]
  refine CW.seq (fun K1 h1 => ?_)
  refine CW.region ?_
  refine r_assign rfl ?_
  refine LW.nil ?_
  refine thenE_norm (h1 _ _ ?_); clear h1; try clear K1
  refine CW.seq (fun K2 h2 => ?_)
  refine CW.region ?_
  refine r_assign rfl ?_
  refine LW.nil ?_
  refine thenE_norm (h2 _ _ ?_); clear h2; try clear K2
  refine CW.seq (fun K3 h3 => ?_)
  refine CW.region ?_
  refine r_buildSlice0 rfl Try.underlying75 Try.sizeOf128 rfl ?_
  intro b2_0 w2_0 hb2_0 hs2_0 hE2_0 hB2_0
  replace H := SH.call H (SH.fromB hE2_0 hb2_0 hs2_0 hB2_0)
  clear hb2_0 hs2_0 hE2_0 hB2_0
  try dsimp only [replC, List.cons_append, List.nil_append, List.append_nil, agg, cellsL, Value.cells, List.toList_toArray, List.set_cons_zero, List.set_cons_succ, spliceL, List.take_succ_cons, List.take_zero, List.drop_succ_cons, List.drop_zero, List.length_cons, List.length_nil, Nat.reduceAdd, Row.cells, Gr.L, Rep.L, Mem.L, Cm.L, Rq.L, Ent.L, ActP.L, Wt.L] at H
  replace H := SH.row (b := b2_0) (xs := ([] : List Wt)) (n := 0) (cap := 0) H (by (repeat first | exact At.here | apply At.there); done) (by simp only [flat, List.flatMap_cons, List.flatMap_nil, cellsL, agg, List.append_nil, List.cons_append, List.nil_append, List.toList_toArray, Row.cells, Gr.L, Rep.L, Mem.L, Cm.L, Rq.L, Ent.L, ActP.L, Wt.L] <;> rfl) (by intro x hx; first | rfl | (simp at hx; done) | (simp only [List.mem_cons, List.not_mem_nil, or_false] at hx; rcases hx with rfl <;> first | rfl | exact (by first | rfl | assumption | exact Rs.oneC (by first | assumption | exact SH.rsR H (by (repeat first | exact At.here | apply At.there); done) | exact SH.rsO H (by (repeat first | exact At.here | apply At.there); done) | exact (Rs.nil : Rs Non _ _ _)) | (simp only [List.all_cons, List.all_nil, Bool.and_true, Bool.and_eq_true, Row.cells, Gr.L, Rep.L, Mem.L, Cm.L, Rq.L, Ent.L, ActP.L, Wt.L]; (repeat' constructor) <;> first | rfl | assumption | exact Rs.oneC (by first | assumption | exact SH.rsR H (by (repeat first | exact At.here | apply At.there); done) | exact SH.rsO H (by (repeat first | exact At.here | apply At.there); done) | exact (Rs.nil : Rs Non _ _ _)))))) (by rfl) rfl (by decide)
  try dsimp only [replC, List.cons_append, List.nil_append, List.append_nil, agg, cellsL, Value.cells, List.toList_toArray, List.set_cons_zero, List.set_cons_succ, spliceL, List.take_succ_cons, List.take_zero, List.drop_succ_cons, List.drop_zero, List.length_cons, List.length_nil, Nat.reduceAdd, Row.cells, Gr.L, Rep.L, Mem.L, Cm.L, Rq.L, Ent.L, ActP.L, Wt.L] at H
  refine r_move rfl ?_
  refine r_nilCheck rfl rfl ?_
  refine r_fieldAddrO rfl Try.underlying77 rfl Try.sizeOf75 (by decide) (show _ = 0 from rfl) rfl ?_
  refine r_load rfl Try.isAgg75 rfl (by first | exact SH.cellB H (by (repeat first | exact At.here | apply At.there); done) (by rfl) | exact SH.cellI H (by (repeat first | exact At.here | apply At.there); done) (by rfl) | assumption) ?_
  first
    | refine s_append H rfl Try.underlying75 Try.underlying75 Try.type128 rfl (by simp only [upd_get, ev, Nat.reduceEqDiff, ↓reduceIte] <;> rfl) (by simp only [upd_get, ev, Nat.reduceEqDiff, ↓reduceIte] <;> rfl) (by (repeat first | exact At.here | apply At.there); done) (by first | assumption | exact SH.rsR H (by (repeat first | exact At.here | apply At.there); done) | exact SH.rsO H (by (repeat first | exact At.here | apply At.there); done) | exact (Rs.nil : Rs Non _ _ _)) (by rfl) (by rfl) (by first | omega | (simp only [Try.t128, List.length_append, List.length_cons, List.length_nil, List.length_map, maxLen]; omega) | (simp [Try.t128, maxLen]; omega)) (by first | omega | (simp only [Try.t128, List.length_append, List.length_cons, List.length_nil, List.length_map, maxLen]; omega) | (simp [Try.t128, maxLen]; omega)) ?_
    | refine s_appendNil H rfl Try.underlying75 Try.underlying75 Try.type128 rfl rfl (by simp only [upd_get, ev, Nat.reduceEqDiff, ↓reduceIte] <;> rfl) (by first | assumption | exact SH.rsR H (by (repeat first | exact At.here | apply At.there); done) | exact SH.rsO H (by (repeat first | exact At.here | apply At.there); done) | exact (Rs.nil : Rs Non _ _ _)) (by rfl) (by rfl) (by first | omega | (simp only [Try.t128, List.length_append, List.length_cons, List.length_nil, List.length_map, maxLen]; omega) | (simp [Try.t128, maxLen]; omega)) ?_
  clear H
  intro v2_5 w2_5 g2_5 H hN2_5
  try dsimp only [replC, List.cons_append, List.nil_append, List.append_nil] at H
  refine r_assign rfl ?_
  refine LW.nil ?_
  refine thenE_norm ?_
  refine cut (K := K3) [0, 1, 5, 6] (fun σ => ?_)
  simp only [setL, keepE, upd_get, ev, Nat.reduceEqDiff, ↓reduceIte]
  refine h3 _ _ ?_; clear h3; try clear K3
  refine CW.seq (fun K4 h4 => ?_)
  refine CW.seq (fun K5 h5 => ?_)
  refine CW.region ?_
  refine r_assign rfl ?_
  refine LW.nil ?_
  refine thenE_norm (h5 _ _ ?_); clear h5; try clear K5
  refine CW.block ?_
  refine CW.loopR [0, 1, 6] [5, 7] (fun m vs w' => ∃ (i : Nat) (u : Value) (g : Option Nat), vs = [u, .int .i64 i] ∧ i ≤ ws.length ∧ m = ws.length - i ∧ SH FN Any w w' [.B q 77 [v], .O 128 v ws gp, .O 128 v2_5 ((ws.take i).map (toldW view) ++ ws.drop i) g2_5, .O 29 u (newW (ws.take i) view) g]) (ws.length) ?_ ?_
  · exact ⟨0, .slice none 0 0, none, rfl, by omega, by omega, H.addO (α := Rq) 29⟩
  try clear H
  rintro n1 vs1 wL1 σ ⟨i, u, g, rfl, hi, rfl, H⟩
  simp only [setL, keepE, upd_get, ev, Nat.reduceEqDiff, ↓reduceIte]
  refine CW.seq (fun K6 h6 => ?_)
  refine CW.seq (fun K7 h7 => ?_)
  have hml : ((ws.take i).map (toldW view) ++ ws.drop i).length = ws.length := by simp; omega
  refine CW.region ?_
  refine r_move rfl ?_
  refine r_move rfl ?_
  first
    | refine r_lenV rfl Try.underlying75 (by simp only [upd_get, ev, Nat.reduceEqDiff, ↓reduceIte] <;> rfl) (by first | assumption | exact SH.rsR H (by (repeat first | exact At.here | apply At.there); done) | exact SH.rsO H (by (repeat first | exact At.here | apply At.there); done) | exact (Rs.nil : Rs Non _ _ _)) ?_
    | refine r_len rfl Try.underlying75 rfl ?_
  refine r_lss rfl rfl rfl ?_
  refine LW.nil ?_
  refine thenE_norm (h7 _ _ ?_); clear h7; try clear K7
  refine CW.cond rfl (fun hc1 => ?_) (fun hc1 => ?_)
  · try simp only [decide_eq_true_eq, decide_eq_false_iff_not, Bool.and_eq_true, Bool.or_eq_true, Bool.and_eq_false_iff, Bool.or_eq_false_iff, Bool.not_eq_true', Bool.not_eq_false', beq_iff_eq, bne_iff_ne, ne_eq, Decidable.not_not] at hc1
    refine CW.skip ?_
    refine thenE_norm (h6 _ _ ?_); clear h6; try clear K6
    refine CW.seq (fun K8 h8 => ?_)
    refine CW.block ?_
    refine CW.seq (fun K9 h9 => ?_)
    obtain ⟨x, hx⟩ := get_of_lt (show i < ws.length by omega)
    have hil := lt_of_get hx
    have hnl := newW_snoc view hx
    have hnn : (newW (ws.take i) view).length ≤ 6 := by
      have := List.length_filter_le (isNewW view) (ws.take i)
      rw [newW, List.length_map]
      rw [List.length_take] at this
      omega
    rw [putL_start hx] at H
    have hend := putL_end (f := toldW view) hx
    have hpl := putL_len (f := toldW view) (y := x) hil
    have hpg := putL_get (f := toldW view) (y := x) hil
    have hps := putL_set (f := toldW view) (y := x) (z := { x with told := true, view := view }) hil
    generalize hZ : putL (toldW view) ws i x = zs at *
    have hx3 : (zs.set i { x with told := true })[i]? = some { x with told := true } := List.getElem?_set_self (by omega)
    have hls : (zs.set i { x with told := true }).length = ws.length := by rw [List.length_set]; exact hpl
    refine CW.region ?_
    refine r_move rfl ?_
    refine r_move rfl ?_
    refine r_indexAddrV rfl Try.underlying75 (by simp only [upd_get, ev, Nat.reduceEqDiff, ↓reduceIte] <;> rfl) rfl (by first | assumption | exact SH.rsR H (by (repeat first | exact At.here | apply At.there); done) | exact SH.rsO H (by (repeat first | exact At.here | apply At.there); done) | exact (Rs.nil : Rs Non _ _ _)) (by exact Try.sizeOf128) (by omega) (by omega) ?_
    refine r_fieldAddrO rfl Try.underlying128 rfl Try.sizeOf4 (by decide) (show _ + 8 = _ from rfl) rfl ?_
    refine r_load rfl Try.isAgg4 rfl (by first | exact Rs.cell (by first | assumption | exact SH.rsR H (by (repeat first | exact At.here | apply At.there); done) | exact SH.rsO H (by (repeat first | exact At.here | apply At.there); done) | exact (Rs.nil : Rs Non _ _ _)) (by assumption) (by rfl) | exact Rs.cell0 (by first | assumption | exact SH.rsR H (by (repeat first | exact At.here | apply At.there); done) | exact SH.rsO H (by (repeat first | exact At.here | apply At.there); done) | exact (Rs.nil : Rs Non _ _ _)) (by assumption) (by rfl) | assumption) ?_
    refine r_not rfl rfl ?_
    refine r_move rfl ?_
    refine' LW.grpOr (n := 8) (ts := [0, 1, 5, 6, 7]) (d := 34) (tj := 26) rfl (fun hg6_7 => ?_) (fun hg6_7 => ?_) (fun σ => ?_)
    rotate_left
    · simp only [List.take_succ_cons, List.take_zero]
      have hg6_7P := hg6_7
      try simp only [decide_eq_true_eq, decide_eq_false_iff_not, Bool.and_eq_true, Bool.or_eq_true, Bool.and_eq_false_iff, Bool.or_eq_false_iff, Bool.not_eq_true', Bool.not_eq_false', beq_iff_eq, bne_iff_ne] at hg6_7P
      refine LW.want rfl rfl hg6_7 ?_
      refine r_move rfl ?_
      refine LW.want rfl rfl hg6_7 ?_
      refine r_move rfl ?_
      refine LW.want rfl rfl hg6_7 ?_
      refine r_indexAddrV rfl Try.underlying75 (by simp only [upd_get, ev, Nat.reduceEqDiff, ↓reduceIte] <;> rfl) rfl (by first | assumption | exact SH.rsR H (by (repeat first | exact At.here | apply At.there); done) | exact SH.rsO H (by (repeat first | exact At.here | apply At.there); done) | exact (Rs.nil : Rs Non _ _ _)) (by exact Try.sizeOf128) (by omega) (by omega) ?_
      refine LW.want rfl rfl hg6_7 ?_
      refine r_fieldAddrO rfl Try.underlying128 rfl Try.sizeOf3 (by decide) (show _ + 7 = _ from rfl) rfl ?_
      refine LW.want rfl rfl hg6_7 ?_
      refine r_load rfl Try.isAgg3 rfl (by first | exact Rs.cell (by first | assumption | exact SH.rsR H (by (repeat first | exact At.here | apply At.there); done) | exact SH.rsO H (by (repeat first | exact At.here | apply At.there); done) | exact (Rs.nil : Rs Non _ _ _)) (by assumption) (by rfl) | exact Rs.cell0 (by first | assumption | exact SH.rsR H (by (repeat first | exact At.here | apply At.there); done) | exact SH.rsO H (by (repeat first | exact At.here | apply At.there); done) | exact (Rs.nil : Rs Non _ _ _)) (by assumption) (by rfl) | assumption) ?_
      refine LW.want rfl rfl hg6_7 ?_
      refine r_move rfl ?_
      refine LW.want rfl rfl hg6_7 ?_
      refine r_neq rfl rfl rfl ?_
      refine r_pickF rfl rfl hg6_7 ?_
      refine LW.nil (thenE_norm ⟨rfl, rfl, rfl⟩)
    · simp only [List.take_succ_cons, List.take_zero]
      refine LW.skip rfl (fun _ e => by cases e; decide) rfl hg6_7 ?_
      refine LW.skip rfl (fun _ e => by cases e; decide) rfl hg6_7 ?_
      refine LW.skip rfl (fun _ e => by cases e; decide) rfl hg6_7 ?_
      refine LW.skip rfl (fun _ e => by cases e; decide) rfl hg6_7 ?_
      refine LW.skip rfl (fun _ e => by cases e; decide) rfl hg6_7 ?_
      refine LW.skip rfl (fun _ e => by cases e; decide) rfl hg6_7 ?_
      refine LW.skip rfl (fun _ e => by cases e; decide) rfl hg6_7 ?_
      refine r_pickT rfl rfl hg6_7 ?_
      refine LW.nil (thenE_norm ⟨rfl, rfl, rfl⟩)
    simp only [setL, keepE, upd_get, ev, Nat.reduceEqDiff, ↓reduceIte]; simp only [List.drop_succ_cons, List.drop_zero]
    refine LW.nil ?_
    refine thenE_norm (h9 _ _ ?_); clear h9; try clear K9
    refine CW.cond rfl (fun hc2 => ?_) (fun hc2 => ?_)
    · try simp only [decide_eq_true_eq, decide_eq_false_iff_not, Bool.and_eq_true, Bool.or_eq_true, Bool.and_eq_false_iff, Bool.or_eq_false_iff, Bool.not_eq_true', Bool.not_eq_false', beq_iff_eq, bne_iff_ne, ne_eq, Decidable.not_not] at hc2
      refine CW.seq (fun K10 h10 => ?_)
      refine CW.region ?_
      refine r_move rfl ?_
      refine r_move rfl ?_
      refine r_move rfl ?_
      refine r_indexAddrV rfl Try.underlying75 (by simp only [upd_get, ev, Nat.reduceEqDiff, ↓reduceIte] <;> rfl) rfl (by first | assumption | exact SH.rsR H (by (repeat first | exact At.here | apply At.there); done) | exact SH.rsO H (by (repeat first | exact At.here | apply At.there); done) | exact (Rs.nil : Rs Non _ _ _)) (by exact Try.sizeOf128) (by omega) (by omega) ?_
      refine r_fieldAddrO rfl Try.underlying128 rfl Try.sizeOf29 (by decide) (show _ + 0 = _ from rfl) rfl ?_
      refine r_loadA rfl Try.isAgg29 Try.sizeOf29 rfl (by first | exact Rs.partOf (n := 5) (by first | assumption | exact SH.rsR H (by (repeat first | exact At.here | apply At.there); done) | exact SH.rsO H (by (repeat first | exact At.here | apply At.there); done) | exact (Rs.nil : Rs Non _ _ _)) (by assumption) (by simp only [Row.cells, List.drop_succ_cons, List.drop_zero, List.take_succ_cons, List.take_zero, Gr.L, Rep.L, Mem.L, Cm.L, Rq.L, Ent.L, ActP.L, Wt.L] <;> rfl) | exact Rs.cells0 (by first | assumption | exact SH.rsR H (by (repeat first | exact At.here | apply At.there); done) | exact SH.rsO H (by (repeat first | exact At.here | apply At.there); done) | exact (Rs.nil : Rs Non _ _ _)) (by assumption)) (by rfl) ?_
      refine r_buildSliceA (vs := [_]) rfl Try.underlying30 Try.sizeOf29 Try.zeroValue29 rfl rfl rfl rfl (by simp only [List.map_cons, List.map_nil, List.toList_toArray, numbered, Nat.reduceAdd, upd_get, ev, Nat.reduceEqDiff, ↓reduceIte] <;> rfl) rfl (by intro v hv; simp only [List.mem_cons, List.not_mem_nil, or_false] at hv; rcases hv with rfl <;> rfl) ?_
      intro b7_6 w7_6 hb7_6 hs7_6 hE7_6 hB7_6
      replace H := SH.call H (SH.fromB hE7_6 hb7_6 hs7_6 hB7_6)
      clear hb7_6 hs7_6 hE7_6 hB7_6
      try dsimp only [replC, List.cons_append, List.nil_append, List.append_nil, agg, cellsL, Value.cells, List.toList_toArray, List.set_cons_zero, List.set_cons_succ, spliceL, List.take_succ_cons, List.take_zero, List.drop_succ_cons, List.drop_zero, List.length_cons, List.length_nil, Nat.reduceAdd, Row.cells, Gr.L, Rep.L, Mem.L, Cm.L, Rq.L, Ent.L, ActP.L, Wt.L] at H
      replace H := SH.row (b := b7_6) (xs := ([x.req] : List Rq)) (n := 1) (cap := 1) H (by (repeat first | exact At.here | apply At.there); done) (by simp only [flat, List.flatMap_cons, List.flatMap_nil, cellsL, agg, List.append_nil, List.cons_append, List.nil_append, List.toList_toArray, Row.cells, Gr.L, Rep.L, Mem.L, Cm.L, Rq.L, Ent.L, ActP.L, Wt.L] <;> rfl) (by intro x hx; first | rfl | (simp at hx; done) | (simp only [List.mem_cons, List.not_mem_nil, or_false] at hx; rcases hx with rfl <;> first | rfl | exact (by first | rfl | assumption | exact Rs.oneC (by first | assumption | exact SH.rsR H (by (repeat first | exact At.here | apply At.there); done) | exact SH.rsO H (by (repeat first | exact At.here | apply At.there); done) | exact (Rs.nil : Rs Non _ _ _)) | (simp only [List.all_cons, List.all_nil, Bool.and_true, Bool.and_eq_true, Row.cells, Gr.L, Rep.L, Mem.L, Cm.L, Rq.L, Ent.L, ActP.L, Wt.L]; (repeat' constructor) <;> first | rfl | assumption | exact Rs.oneC (by first | assumption | exact SH.rsR H (by (repeat first | exact At.here | apply At.there); done) | exact SH.rsO H (by (repeat first | exact At.here | apply At.there); done) | exact (Rs.nil : Rs Non _ _ _)))))) (by rfl) rfl (by decide)
      try dsimp only [replC, List.cons_append, List.nil_append, List.append_nil, agg, cellsL, Value.cells, List.toList_toArray, List.set_cons_zero, List.set_cons_succ, spliceL, List.take_succ_cons, List.take_zero, List.drop_succ_cons, List.drop_zero, List.length_cons, List.length_nil, Nat.reduceAdd, Row.cells, Gr.L, Rep.L, Mem.L, Cm.L, Rq.L, Ent.L, ActP.L, Wt.L] at H
      refine s_append H rfl Try.underlying30 Try.underlying30 Try.type29 rfl (by simp only [upd_get, ev, Nat.reduceEqDiff, ↓reduceIte] <;> rfl) (by simp only [upd_get, ev, Nat.reduceEqDiff, ↓reduceIte] <;> rfl) (by (repeat first | exact At.here | apply At.there); done) (by first | assumption | exact SH.rsR H (by (repeat first | exact At.here | apply At.there); done) | exact SH.rsO H (by (repeat first | exact At.here | apply At.there); done) | exact (Rs.nil : Rs Non _ _ _)) (by rfl) (by rfl) (by first | omega | (simp only [Try.t29, List.length_append, List.length_cons, List.length_nil, List.length_map, maxLen]; omega) | (simp [Try.t29, maxLen]; omega)) (by first | omega | (simp only [Try.t29, List.length_append, List.length_cons, List.length_nil, List.length_map, maxLen]; omega) | (simp [Try.t29, maxLen]; omega)) ?_
      clear H
      intro v7_7 w7_7 g7_7 H hN7_7
      try dsimp only [replC, List.cons_append, List.nil_append, List.append_nil] at H
      refine r_assign rfl ?_
      refine LW.nil ?_
      refine thenE_norm ?_
      refine cut (K := K10) [0, 1, 5, 6, 7] (fun σ => ?_)
      simp only [setL, keepE, upd_get, ev, Nat.reduceEqDiff, ↓reduceIte]
      refine h10 _ _ ?_; clear h10; try clear K10
      refine CW.seq (fun K11 h11 => ?_)
      refine CW.region ?_
      refine r_move rfl ?_
      refine r_move rfl ?_
      refine r_indexAddrV rfl Try.underlying75 (by simp only [upd_get, ev, Nat.reduceEqDiff, ↓reduceIte] <;> rfl) rfl (by first | assumption | exact SH.rsR H (by (repeat first | exact At.here | apply At.there); done) | exact SH.rsO H (by (repeat first | exact At.here | apply At.there); done) | exact (Rs.nil : Rs Non _ _ _)) (by exact Try.sizeOf128) (by omega) (by omega) ?_
      refine r_fieldAddrO rfl Try.underlying128 rfl Try.sizeOf4 (by decide) (show _ + 8 = _ from rfl) rfl ?_
      refine s_storeR (o := 8) (x1 := { x with told := true }) H Try.sizeOf4 rfl (by simp only [upd_get, ev, Nat.reduceEqDiff, ↓reduceIte] <;> rfl) (by first | rfl | assumption | exact Rs.oneC (by first | assumption | exact SH.rsR H (by (repeat first | exact At.here | apply At.there); done) | exact SH.rsO H (by (repeat first | exact At.here | apply At.there); done) | exact (Rs.nil : Rs Non _ _ _)) | (simp only [List.all_cons, List.all_nil, Bool.and_true, Bool.and_eq_true, Row.cells, Gr.L, Rep.L, Mem.L, Cm.L, Rq.L, Ent.L, ActP.L, Wt.L]; (repeat' constructor) <;> first | rfl | assumption | exact Rs.oneC (by first | assumption | exact SH.rsR H (by (repeat first | exact At.here | apply At.there); done) | exact SH.rsO H (by (repeat first | exact At.here | apply At.there); done) | exact (Rs.nil : Rs Non _ _ _)))) (by (repeat first | exact At.here | apply At.there); done) (by assumption) (by rfl) (by rfl) (by rfl) (by first | rfl | assumption | exact Rs.oneC (by first | assumption | exact SH.rsR H (by (repeat first | exact At.here | apply At.there); done) | exact SH.rsO H (by (repeat first | exact At.here | apply At.there); done) | exact (Rs.nil : Rs Non _ _ _)) | (simp only [List.all_cons, List.all_nil, Bool.and_true, Bool.and_eq_true, Row.cells, Gr.L, Rep.L, Mem.L, Cm.L, Rq.L, Ent.L, ActP.L, Wt.L]; (repeat' constructor) <;> first | rfl | assumption | exact Rs.oneC (by first | assumption | exact SH.rsR H (by (repeat first | exact At.here | apply At.there); done) | exact SH.rsO H (by (repeat first | exact At.here | apply At.there); done) | exact (Rs.nil : Rs Non _ _ _)))) ?_
      clear H
      intro w8_4 H
      try dsimp only [replC, List.cons_append, List.nil_append, List.append_nil, agg, cellsL, Value.cells, List.toList_toArray, List.set_cons_zero, List.set_cons_succ, spliceL, List.take_succ_cons, List.take_zero, List.drop_succ_cons, List.drop_zero, List.length_cons, List.length_nil, Nat.reduceAdd, Row.cells, Gr.L, Rep.L, Mem.L, Cm.L, Rq.L, Ent.L, ActP.L, Wt.L] at H
      refine LW.nil ?_
      refine thenE_norm (h11 _ _ ?_); clear h11; try clear K11
      refine CW.region ?_
      refine r_move rfl ?_
      refine r_move rfl ?_
      refine r_move rfl ?_
      refine r_indexAddrV rfl Try.underlying75 (by simp only [upd_get, ev, Nat.reduceEqDiff, ↓reduceIte] <;> rfl) rfl (by first | assumption | exact SH.rsR H (by (repeat first | exact At.here | apply At.there); done) | exact SH.rsO H (by (repeat first | exact At.here | apply At.there); done) | exact (Rs.nil : Rs Non _ _ _)) (by exact Try.sizeOf128) (by omega) (by omega) ?_
      refine r_fieldAddrO rfl Try.underlying128 rfl Try.sizeOf3 (by decide) (show _ + 7 = _ from rfl) rfl ?_
      refine s_storeR (o := 7) (x1 := { x with told := true, view := view }) H Try.sizeOf3 rfl (by simp only [upd_get, ev, Nat.reduceEqDiff, ↓reduceIte] <;> rfl) (by first | rfl | assumption | exact Rs.oneC (by first | assumption | exact SH.rsR H (by (repeat first | exact At.here | apply At.there); done) | exact SH.rsO H (by (repeat first | exact At.here | apply At.there); done) | exact (Rs.nil : Rs Non _ _ _)) | (simp only [List.all_cons, List.all_nil, Bool.and_true, Bool.and_eq_true, Row.cells, Gr.L, Rep.L, Mem.L, Cm.L, Rq.L, Ent.L, ActP.L, Wt.L]; (repeat' constructor) <;> first | rfl | assumption | exact Rs.oneC (by first | assumption | exact SH.rsR H (by (repeat first | exact At.here | apply At.there); done) | exact SH.rsO H (by (repeat first | exact At.here | apply At.there); done) | exact (Rs.nil : Rs Non _ _ _)))) (by (repeat first | exact At.here | apply At.there); done) (by assumption) (by rfl) (by rfl) (by rfl) (by first | rfl | assumption | exact Rs.oneC (by first | assumption | exact SH.rsR H (by (repeat first | exact At.here | apply At.there); done) | exact SH.rsO H (by (repeat first | exact At.here | apply At.there); done) | exact (Rs.nil : Rs Non _ _ _)) | (simp only [List.all_cons, List.all_nil, Bool.and_true, Bool.and_eq_true, Row.cells, Gr.L, Rep.L, Mem.L, Cm.L, Rq.L, Ent.L, ActP.L, Wt.L]; (repeat' constructor) <;> first | rfl | assumption | exact Rs.oneC (by first | assumption | exact SH.rsR H (by (repeat first | exact At.here | apply At.there); done) | exact SH.rsO H (by (repeat first | exact At.here | apply At.there); done) | exact (Rs.nil : Rs Non _ _ _)))) ?_
      clear H
      intro w9_5 H
      try dsimp only [replC, List.cons_append, List.nil_append, List.append_nil, agg, cellsL, Value.cells, List.toList_toArray, List.set_cons_zero, List.set_cons_succ, spliceL, List.take_succ_cons, List.take_zero, List.drop_succ_cons, List.drop_zero, List.length_cons, List.length_nil, Nat.reduceAdd, Row.cells, Gr.L, Rep.L, Mem.L, Cm.L, Rq.L, Ent.L, ActP.L, Wt.L] at H
      refine LW.nil ?_
      refine blockE_norm ?_
      refine thenE_norm (h8 _ _ ?_); clear h8; try clear K8
      refine CW.region ?_
      refine r_move rfl ?_
      refine r_add rfl rfl rfl (wr_i64 (by omega) (by omega)) ?_
      refine r_assign rfl ?_
      refine LW.nil ?_
      refine thenE_norm ⟨rfl, ?_⟩
      have hnew : isNewW view x = true := by simp [isNewW]; simpa using hc2
      simp only [List.set_set, Int.toNat_natCast] at H
      exact ⟨ws.length - (i + 1), by omega, i + 1, _, _, rfl, by omega, rfl, by rw [hnl, if_pos hnew, ← hend, toldW, if_pos hnew, ← hps]; exact SH.sel H [0, 1, 2, 3] (by decide) rfl⟩
    · try simp only [decide_eq_true_eq, decide_eq_false_iff_not, Bool.and_eq_true, Bool.or_eq_true, Bool.and_eq_false_iff, Bool.or_eq_false_iff, Bool.not_eq_true', Bool.not_eq_false', beq_iff_eq, bne_iff_ne, ne_eq, Decidable.not_not] at hc2
      refine CW.skip ?_
      refine blockE_norm ?_
      refine thenE_norm (h8 _ _ ?_); clear h8; try clear K8
      refine CW.region ?_
      refine r_move rfl ?_
      refine r_add rfl rfl rfl (wr_i64 (by omega) (by omega)) ?_
      refine r_assign rfl ?_
      refine LW.nil ?_
      refine thenE_norm ⟨rfl, ?_⟩
      have hnew : ¬ isNewW view x = true := by simp [isNewW]; simpa using hc2
      exact ⟨ws.length - (i + 1), by omega, i + 1, _, _, rfl, by omega, rfl, by rw [hnl, if_neg hnew, List.append_nil, ← hend, toldW, if_neg hnew, hZ]; exact H⟩
  · try simp only [decide_eq_true_eq, decide_eq_false_iff_not, Bool.and_eq_true, Bool.or_eq_true, Bool.and_eq_false_iff, Bool.or_eq_false_iff, Bool.not_eq_true', Bool.not_eq_false', beq_iff_eq, bne_iff_ne, ne_eq, Decidable.not_not] at hc1
    refine CW.exit (thenE_exit (thenE_exit (blockE_hit ?_)))
    refine thenE_norm (h4 _ _ ?_); clear h4; try clear K4
    refine CW.seq (fun K12 h12 => ?_)
    obtain rfl : i = ws.length := by
      have hml : ((ws.take i).map (toldW view) ++ ws.drop i).length = ws.length := by simp; omega
      omega
    rw [List.take_length, List.drop_length, List.append_nil] at H
    refine CW.region ?_
    refine r_move rfl ?_
    refine r_move rfl ?_
    refine r_nilCheck rfl rfl ?_
    refine r_fieldAddrO rfl Try.underlying77 rfl Try.sizeOf75 (by decide) (show _ = 0 from rfl) rfl ?_
    refine s_store H Try.sizeOf75 rfl (by simp only [upd_get, ev, Nat.reduceEqDiff, ↓reduceIte] <;> rfl) (by first | rfl | assumption | exact Rs.oneC (by first | assumption | exact SH.rsR H (by (repeat first | exact At.here | apply At.there); done) | exact SH.rsO H (by (repeat first | exact At.here | apply At.there); done) | exact (Rs.nil : Rs Non _ _ _)) | (simp only [List.all_cons, List.all_nil, Bool.and_true, Bool.and_eq_true, Row.cells, Gr.L, Rep.L, Mem.L, Cm.L, Rq.L, Ent.L, ActP.L, Wt.L]; (repeat' constructor) <;> first | rfl | assumption | exact Rs.oneC (by first | assumption | exact SH.rsR H (by (repeat first | exact At.here | apply At.there); done) | exact SH.rsO H (by (repeat first | exact At.here | apply At.there); done) | exact (Rs.nil : Rs Non _ _ _)))) (by (repeat first | exact At.here | apply At.there); done) (by first | (simp; done) | decide | omega) ?_
    clear H
    intro w10_4 H
    try dsimp only [replC, List.cons_append, List.nil_append, List.append_nil, agg, cellsL, Value.cells, List.toList_toArray, List.set_cons_zero, List.set_cons_succ, spliceL, List.take_succ_cons, List.take_zero, List.drop_succ_cons, List.drop_zero, List.length_cons, List.length_nil, Nat.reduceAdd, Row.cells, Gr.L, Rep.L, Mem.L, Cm.L, Rq.L, Ent.L, ActP.L, Wt.L] at H
    refine LW.nil ?_
    refine thenE_norm ?_
    refine cut (K := K12) [5] (fun σ => ?_)
    simp only [setL, keepE, upd_get, ev, Nat.reduceEqDiff, ↓reduceIte]
    refine h12 _ _ ?_; clear h12; try clear K12
    refine CW.seq (fun K13 h13 => ?_)
    refine CW.region ?_
    refine r_move rfl ?_
    refine r_assign rfl ?_
    refine LW.nil ?_
    refine thenE_norm (h13 _ _ ?_); clear h13; try clear K13
    refine CW.ret (ret1 Try.results53 (by simp only [upd_get, ev, Nat.reduceEqDiff, ↓reduceIte]; rfl) ?_)
    obtain ⟨FN', K⟩ := RPoolA.mkL (ws := ws.map (toldW view)) (by rw [List.length_map]; exact hl6) (SH.sel H [0, 2, 3] (by decide) rfl)
    exact ⟨_, _, _, rfl, SH.give K (List.Sublist.refl _) ⟨trivial, trivial, trivial⟩⟩
theorem mem_one {x : Mem} (h : (Row.cells x).all oneC = true) : oneC x.reply.held = true := List.all_eq_true.1 h _ (by simp [Row.cells, Mem.L])
def mem0 : Mem := ⟨0, 0, ⟨0, 0, 0, .slice none 0 0⟩⟩
/-- A client's memo, if there is one. -/
def lastM (l : List Mem) (c : Int) : Mem × Bool := match l.find? (isK Mem.client c) with
  | some m => (m, true)
  | none => (mem0, false)
theorem LastR_c {F : Nat → Prop} {v : Value} {l : List Mem} (c : Int) (w : World) (hv : Rs F w v l) :
    Calls Try.prog 69 #[v, .int .i64 c] w fun e w' => e = .returned (.tuple #[agg (lastM l c).1, .bool (lastM l c).2]) ∧ Ext0 w w' := by
  have H := (SH.start w).arg hv
  have h63 := hv.len63
  refine calls_of_CW Try.func69 rfl Try.ntmps69 (Nat.le_of_ble_eq_true rfl) ?_
  simp only [argE, argFrom, Nat.reduceAdd]
  refine CW.seq (fun K1 h1 => ?_)
  refine CW.region ?_
  refine s_alloc (cs := [.int .i64 0, .int .i64 0, .int .i64 0, .int .i64 0, .int .i64 0, .slice none 0 0]) H rfl Try.zeroValue80 rfl ?_
  clear H
  intro b0_0 w0_0 H
  try dsimp only [replC, List.cons_append, List.nil_append, List.append_nil, agg, cellsL, Value.cells, List.toList_toArray, List.set_cons_zero, List.set_cons_succ, spliceL, List.take_succ_cons, List.take_zero, List.drop_succ_cons, List.drop_zero, List.length_cons, List.length_nil, Nat.reduceAdd, Row.cells, Gr.L, Rep.L, Mem.L, Cm.L, Rq.L, Ent.L, ActP.L, Wt.L] at H
  refine r_assign rfl ?_
  refine LW.nil ?_
  refine thenE_norm (h1 _ _ ?_); clear h1; try clear K1
  refine CW.seq (fun K2 h2 => ?_)
  refine CW.seq (fun K3 h3 => ?_)
  refine CW.region ?_
  refine r_assign rfl ?_
  refine LW.nil ?_
  refine thenE_norm (h3 _ _ ?_); clear h3; try clear K3
  refine CW.block ?_
  refine CW.loopR [0, 1, 4] [6] (fun m vs w' => ∃ (i : Nat), vs = [.int .i64 i] ∧ i ≤ l.length ∧ m = l.length - i ∧ (l.take i).find? (isK Mem.client c) = none ∧ SH Non Any w w' [.R (Old w) v l, .B b0_0 80 [.int .i64 0, .int .i64 0, .int .i64 0, .int .i64 0, .int .i64 0, .slice none 0 0]]) (l.length) ?_ ?_
  · exact ⟨0, rfl, by omega, by omega, rfl, H⟩
  try clear H
  rintro n1 vs1 wL1 σ ⟨i, rfl, hi, rfl, hno, H⟩
  simp only [setL, keepE, upd_get, ev, Nat.reduceEqDiff, ↓reduceIte]
  refine CW.seq (fun K4 h4 => ?_)
  refine CW.seq (fun K5 h5 => ?_)
  refine CW.region ?_
  refine r_move rfl ?_
  refine r_move rfl ?_
  first
    | refine r_lenV rfl Try.underlying81 (by simp only [upd_get, ev, Nat.reduceEqDiff, ↓reduceIte] <;> rfl) (by first | assumption | exact SH.rsR H (by (repeat first | exact At.here | apply At.there); done) | exact SH.rsO H (by (repeat first | exact At.here | apply At.there); done) | exact (Rs.nil : Rs Non _ _ _)) ?_
    | refine r_len rfl Try.underlying81 rfl ?_
  refine r_lss rfl rfl rfl ?_
  refine LW.nil ?_
  refine thenE_norm (h5 _ _ ?_); clear h5; try clear K5
  refine CW.cond rfl (fun hc1 => ?_) (fun hc1 => ?_)
  · try simp only [decide_eq_true_eq, decide_eq_false_iff_not, Bool.and_eq_true, Bool.or_eq_true, Bool.and_eq_false_iff, Bool.or_eq_false_iff, Bool.not_eq_true', Bool.not_eq_false', beq_iff_eq, bne_iff_ne, ne_eq, Decidable.not_not] at hc1
    refine CW.skip ?_
    refine thenE_norm (h4 _ _ ?_); clear h4; try clear K4
    refine CW.seq (fun K6 h6 => ?_)
    refine CW.block ?_
    refine CW.seq (fun K7 h7 => ?_)
    obtain ⟨x, hx⟩ := get_of_lt (show i < l.length by omega)
    have hxo := mem_one (hv.2 x (List.mem_of_getElem? hx))
    refine CW.region ?_
    refine r_move rfl ?_
    refine r_move rfl ?_
    refine r_indexAddrV rfl Try.underlying81 (by simp only [upd_get, ev, Nat.reduceEqDiff, ↓reduceIte] <;> rfl) rfl (by first | assumption | exact SH.rsR H (by (repeat first | exact At.here | apply At.there); done) | exact SH.rsO H (by (repeat first | exact At.here | apply At.there); done) | exact (Rs.nil : Rs Non _ _ _)) (by exact Try.sizeOf80) (by omega) (by omega) ?_
    refine r_fieldAddrO rfl Try.underlying80 rfl Try.sizeOf3 (by decide) (show _ + 0 = _ from rfl) rfl ?_
    refine r_load rfl Try.isAgg3 rfl (by first | exact Rs.cell (by first | assumption | exact SH.rsR H (by (repeat first | exact At.here | apply At.there); done) | exact SH.rsO H (by (repeat first | exact At.here | apply At.there); done) | exact (Rs.nil : Rs Non _ _ _)) (by assumption) (by rfl) | exact Rs.cell0 (by first | assumption | exact SH.rsR H (by (repeat first | exact At.here | apply At.there); done) | exact SH.rsO H (by (repeat first | exact At.here | apply At.there); done) | exact (Rs.nil : Rs Non _ _ _)) (by assumption) (by rfl) | assumption) ?_
    refine r_move rfl ?_
    refine r_eql rfl rfl rfl ?_
    refine LW.nil ?_
    refine thenE_norm ?_
    refine cut (K := K7) [0, 1, 4, 6, 19] (fun σ => ?_)
    simp only [setL, keepE, upd_get, ev, Nat.reduceEqDiff, ↓reduceIte]
    refine h7 _ _ ?_; clear h7; try clear K7
    refine CW.cond rfl (fun hc2 => ?_) (fun hc2 => ?_)
    · try simp only [decide_eq_true_eq, decide_eq_false_iff_not, Bool.and_eq_true, Bool.or_eq_true, Bool.and_eq_false_iff, Bool.or_eq_false_iff, Bool.not_eq_true', Bool.not_eq_false', beq_iff_eq, bne_iff_ne, ne_eq, Decidable.not_not] at hc2
      refine CW.seq (fun K8 h8 => ?_)
      refine CW.region ?_
      refine r_move rfl ?_
      refine r_move rfl ?_
      refine r_indexAddrV rfl Try.underlying81 (by simp only [upd_get, ev, Nat.reduceEqDiff, ↓reduceIte] <;> rfl) rfl (by first | assumption | exact SH.rsR H (by (repeat first | exact At.here | apply At.there); done) | exact SH.rsO H (by (repeat first | exact At.here | apply At.there); done) | exact (Rs.nil : Rs Non _ _ _)) (by exact Try.sizeOf80) (by omega) (by omega) ?_
      refine r_loadA rfl Try.isAgg80 Try.sizeOf80 rfl (by first | exact Rs.cells0 (by first | assumption | exact SH.rsR H (by (repeat first | exact At.here | apply At.there); done) | exact SH.rsO H (by (repeat first | exact At.here | apply At.there); done) | exact (Rs.nil : Rs Non _ _ _)) (by assumption)) (by rfl) ?_
      refine s_storeA H Try.sizeOf80 rfl (by simp only [upd_get, ev, Nat.reduceEqDiff, ↓reduceIte] <;> rfl) (by simp only [cellsL, agg, List.toList_toArray, Row.cells, Gr.L, Rep.L, Mem.L, Cm.L, Rq.L, Ent.L, ActP.L, Wt.L] <;> rfl) (by rfl) (by first | rfl | assumption | exact Rs.oneC (by first | assumption | exact SH.rsR H (by (repeat first | exact At.here | apply At.there); done) | exact SH.rsO H (by (repeat first | exact At.here | apply At.there); done) | exact (Rs.nil : Rs Non _ _ _)) | (simp only [List.all_cons, List.all_nil, Bool.and_true, Bool.and_eq_true, Row.cells, Gr.L, Rep.L, Mem.L, Cm.L, Rq.L, Ent.L, ActP.L, Wt.L]; (repeat' constructor) <;> first | rfl | assumption | exact Rs.oneC (by first | assumption | exact SH.rsR H (by (repeat first | exact At.here | apply At.there); done) | exact SH.rsO H (by (repeat first | exact At.here | apply At.there); done) | exact (Rs.nil : Rs Non _ _ _)))) (by (repeat first | exact At.here | apply At.there); done) (by first | (simp; done) | decide | (show _ ≤ _; decide)) ?_
      clear H
      intro w5_4 H
      try dsimp only [replC, List.cons_append, List.nil_append, List.append_nil, agg, cellsL, Value.cells, List.toList_toArray, List.set_cons_zero, List.set_cons_succ, spliceL, List.take_succ_cons, List.take_zero, List.drop_succ_cons, List.drop_zero, List.length_cons, List.length_nil, Nat.reduceAdd, Row.cells, Gr.L, Rep.L, Mem.L, Cm.L, Rq.L, Ent.L, ActP.L, Wt.L] at H
      refine r_assign rfl ?_
      refine LW.nil ?_
      refine thenE_norm (h8 _ _ ?_); clear h8; try clear K8
      refine CW.ret (blockE_ret (thenE_ret (thenE_ret (blockE_ret (thenE_ret (retC2 Try.results69 (by simp only [upd_get, ev, Nat.reduceEqDiff, ↓reduceIte] <;> rfl) (by simp only [upd_get, ev, Nat.reduceEqDiff, ↓reduceIte] <;> rfl) Try.isAgg80 Try.sizeOf80 (by exact SH.cells H (by (repeat first | exact At.here | apply At.there); done)) (by rfl) ?_))))))
      have hf := findK_first hx hno (isK_iff.2 hc2)
      rw [lastM, hf]
      exact ⟨rfl, H.ext⟩
    · try simp only [decide_eq_true_eq, decide_eq_false_iff_not, Bool.and_eq_true, Bool.or_eq_true, Bool.and_eq_false_iff, Bool.or_eq_false_iff, Bool.not_eq_true', Bool.not_eq_false', beq_iff_eq, bne_iff_ne, ne_eq, Decidable.not_not] at hc2
      refine CW.skip ?_
      refine blockE_norm ?_
      refine thenE_norm (h6 _ _ ?_); clear h6; try clear K6
      refine CW.region ?_
      refine r_move rfl ?_
      refine r_add rfl rfl rfl (wr_i64 (by omega) (by omega)) ?_
      refine r_assign rfl ?_
      refine LW.nil ?_
      refine thenE_norm ⟨rfl, ?_⟩
      exact ⟨_, by omega, i + 1, rfl, by omega, rfl, findK_snoc hx hno (by rw [isK, decide_eq_false hc2]), H⟩
  · try simp only [decide_eq_true_eq, decide_eq_false_iff_not, Bool.and_eq_true, Bool.or_eq_true, Bool.and_eq_false_iff, Bool.or_eq_false_iff, Bool.not_eq_true', Bool.not_eq_false', beq_iff_eq, bne_iff_ne, ne_eq, Decidable.not_not] at hc1
    refine CW.exit (thenE_exit (thenE_exit (blockE_hit ?_)))
    refine thenE_norm (h2 _ _ ?_); clear h2; try clear K2
    refine CW.seq (fun K9 h9 => ?_)
    refine CW.region ?_
    refine r_buildQ rfl Try.underlying80 Try.zeroValue80 rfl (pl := [(0, 1), (1, 1), (2, 4)]) (by intro w; simp [go_sem]) (qs := []) (cs := [.int .i64 0, .int .i64 0, .int .i64 0, .int .i64 0, .int .i64 0, .slice none 0 0]) trivial rfl ?_
    refine s_storeA H Try.sizeOf80 rfl (by simp only [upd_get, ev, Nat.reduceEqDiff, ↓reduceIte] <;> rfl) (by simp only [cellsL, agg, List.toList_toArray, Row.cells, Gr.L, Rep.L, Mem.L, Cm.L, Rq.L, Ent.L, ActP.L, Wt.L] <;> rfl) (by rfl) (by first | rfl | assumption | exact Rs.oneC (by first | assumption | exact SH.rsR H (by (repeat first | exact At.here | apply At.there); done) | exact SH.rsO H (by (repeat first | exact At.here | apply At.there); done) | exact (Rs.nil : Rs Non _ _ _)) | (simp only [List.all_cons, List.all_nil, Bool.and_true, Bool.and_eq_true, Row.cells, Gr.L, Rep.L, Mem.L, Cm.L, Rq.L, Ent.L, ActP.L, Wt.L]; (repeat' constructor) <;> first | rfl | assumption | exact Rs.oneC (by first | assumption | exact SH.rsR H (by (repeat first | exact At.here | apply At.there); done) | exact SH.rsO H (by (repeat first | exact At.here | apply At.there); done) | exact (Rs.nil : Rs Non _ _ _)))) (by (repeat first | exact At.here | apply At.there); done) (by first | (simp; done) | decide | (show _ ≤ _; decide)) ?_
    clear H
    intro w6_1 H
    try dsimp only [replC, List.cons_append, List.nil_append, List.append_nil, agg, cellsL, Value.cells, List.toList_toArray, List.set_cons_zero, List.set_cons_succ, spliceL, List.take_succ_cons, List.take_zero, List.drop_succ_cons, List.drop_zero, List.length_cons, List.length_nil, Nat.reduceAdd, Row.cells, Gr.L, Rep.L, Mem.L, Cm.L, Rq.L, Ent.L, ActP.L, Wt.L] at H
    refine r_assign rfl ?_
    refine LW.nil ?_
    refine thenE_norm (h9 _ _ ?_); clear h9; try clear K9
    refine CW.ret (retC2 Try.results69 (by simp only [upd_get, ev, Nat.reduceEqDiff, ↓reduceIte] <;> rfl) (by simp only [upd_get, ev, Nat.reduceEqDiff, ↓reduceIte] <;> rfl) Try.isAgg80 Try.sizeOf80 (by exact SH.cells H (by (repeat first | exact At.here | apply At.there); done)) (by rfl) ?_)
    obtain rfl : i = l.length := by omega
    rw [List.take_length] at hno
    rw [lastM, hno]
    exact ⟨rfl, H.ext⟩
theorem last_one {F : Nat → Prop} {w : World} {v : Value} {l : List Mem} (c : Int) (hv : Rs F w v l) : oneC (lastM l c).1.reply.held = true := by
  unfold lastM
  cases hf : l.find? (isK Mem.client c) with
  | none => rfl
  | some m => exact mem_one (hv.2 m (List.mem_of_find?_eq_some hf))
theorem FreshR_c {F : Nat → Prop} {v : Value} {l : List Mem} (c q : Int) (w : World) (hv : Rs F w v l) :
    Calls Try.prog 67 #[v, .int .i64 c, .int .i64 q] w fun e w' => e = .returned (.int .i64 (freshM l c q)) ∧ Ext0 w w' := by
  have H := (SH.start w).arg hv
  have hlo := last_one c hv
  have hfl : freshM l c q = if (lastM l c).2 = false ∨ (lastM l c).1.seq < q then 1 else if (lastM l c).1.seq = q then 0 else -1 := by
    unfold freshM lastM
    cases l.find? (isK Mem.client c) with
    | none => simp
    | some m => simp
  rw [hfl]
  refine calls_of_CW Try.func67 rfl Try.ntmps67 (Nat.le_of_ble_eq_true rfl) ?_
  simp only [argE, argFrom, Nat.reduceAdd]
  refine CW.seq (fun K1 h1 => ?_)
  refine CW.region ?_
  refine r_assign rfl ?_
  refine LW.nil ?_
  refine thenE_norm (h1 _ _ ?_); clear h1; try clear K1
  refine CW.seq (fun K2 h2 => ?_)
  refine CW.region ?_
  refine r_move rfl ?_
  refine r_move rfl ?_
  refine r_call rfl Try.call69 (by simp only [List.map_cons, List.map_nil, List.map_toArray, List.toList_toArray, upd_get, ev, Nat.reduceEqDiff, ↓reduceIte] <;> rfl) (LastR_c _ _ (by first | assumption | exact SH.rsR H (by (repeat first | exact At.here | apply At.there); done) | exact SH.rsO H (by (repeat first | exact At.here | apply At.there); done) | exact (Rs.nil : Rs Non _ _ _))) ?_
  rintro _ w1_2 ⟨rfl, X⟩
  refine ⟨_, rfl, ?_⟩
  replace H := SH.same H X
  clear X
  refine r_move rfl ?_
  refine r_extract rfl (by simp only [upd_get, ev, Nat.reduceEqDiff, ↓reduceIte] <;> rfl) (by simp only [List.getElem?_toArray, List.getElem?_cons_zero, List.getElem?_cons_succ] <;> rfl) ?_
  refine r_extract rfl (by simp only [upd_get, ev, Nat.reduceEqDiff, ↓reduceIte] <;> rfl) (by simp only [List.getElem?_toArray, List.getElem?_cons_zero, List.getElem?_cons_succ] <;> rfl) ?_
  refine s_alloc (cs := [.int .i64 0, .int .i64 0, .int .i64 0, .int .i64 0, .int .i64 0, .slice none 0 0]) H rfl Try.zeroValue80 rfl ?_
  clear H
  intro b1_6 w1_6 H
  try dsimp only [replC, List.cons_append, List.nil_append, List.append_nil, agg, cellsL, Value.cells, List.toList_toArray, List.set_cons_zero, List.set_cons_succ, spliceL, List.take_succ_cons, List.take_zero, List.drop_succ_cons, List.drop_zero, List.length_cons, List.length_nil, Nat.reduceAdd, Row.cells, Gr.L, Rep.L, Mem.L, Cm.L, Rq.L, Ent.L, ActP.L, Wt.L] at H
  refine s_storeA H Try.sizeOf80 rfl (by simp only [upd_get, ev, Nat.reduceEqDiff, ↓reduceIte] <;> rfl) (by simp only [cellsL, agg, List.toList_toArray, Row.cells, Gr.L, Rep.L, Mem.L, Cm.L, Rq.L, Ent.L, ActP.L, Wt.L] <;> rfl) (by rfl) (by first | rfl | assumption | exact Rs.oneC (by first | assumption | exact SH.rsR H (by (repeat first | exact At.here | apply At.there); done) | exact SH.rsO H (by (repeat first | exact At.here | apply At.there); done) | exact (Rs.nil : Rs Non _ _ _)) | (simp only [List.all_cons, List.all_nil, Bool.and_true, Bool.and_eq_true, Row.cells, Gr.L, Rep.L, Mem.L, Cm.L, Rq.L, Ent.L, ActP.L, Wt.L]; (repeat' constructor) <;> first | rfl | assumption | exact Rs.oneC (by first | assumption | exact SH.rsR H (by (repeat first | exact At.here | apply At.there); done) | exact SH.rsO H (by (repeat first | exact At.here | apply At.there); done) | exact (Rs.nil : Rs Non _ _ _)))) (by (repeat first | exact At.here | apply At.there); done) (by first | (simp; done) | decide | (show _ ≤ _; decide)) ?_
  clear H
  intro w1_7 H
  try dsimp only [replC, List.cons_append, List.nil_append, List.append_nil, agg, cellsL, Value.cells, List.toList_toArray, List.set_cons_zero, List.set_cons_succ, spliceL, List.take_succ_cons, List.take_zero, List.drop_succ_cons, List.drop_zero, List.length_cons, List.length_nil, Nat.reduceAdd, Row.cells, Gr.L, Rep.L, Mem.L, Cm.L, Rq.L, Ent.L, ActP.L, Wt.L] at H
  refine r_assign rfl ?_
  refine LW.nil ?_
  refine thenE_norm ?_
  refine cut (K := K2) [2, 7, 8] (fun σ => ?_)
  simp only [setL, keepE, upd_get, ev, Nat.reduceEqDiff, ↓reduceIte]
  refine h2 _ _ ?_; clear h2; try clear K2
  refine CW.seq (fun K3 h3 => ?_)
  refine CW.block ?_
  refine CW.seq (fun K4 h4 => ?_)
  refine CW.region ?_
  refine r_move rfl ?_
  refine r_not rfl rfl ?_
  refine r_move rfl ?_
  refine' LW.grpOr (n := 5) (ts := [2, 7]) (d := 23) (tj := 18) rfl (fun hg2_3 => ?_) (fun hg2_3 => ?_) (fun σ => ?_)
  rotate_left
  · simp only [List.take_succ_cons, List.take_zero]
    have hg2_3P := hg2_3
    try simp only [decide_eq_true_eq, decide_eq_false_iff_not, Bool.and_eq_true, Bool.or_eq_true, Bool.and_eq_false_iff, Bool.or_eq_false_iff, Bool.not_eq_true', Bool.not_eq_false', beq_iff_eq, bne_iff_ne] at hg2_3P
    refine LW.want rfl rfl hg2_3 ?_
    refine r_fieldAddrO rfl Try.underlying80 rfl Try.sizeOf3 (by decide) (show _ = 1 from rfl) rfl ?_
    refine LW.want rfl rfl hg2_3 ?_
    refine r_load rfl Try.isAgg3 rfl (by first | exact SH.cellB H (by (repeat first | exact At.here | apply At.there); done) (by rfl) | assumption) ?_
    refine LW.want rfl rfl hg2_3 ?_
    refine r_move rfl ?_
    refine LW.want rfl rfl hg2_3 ?_
    refine r_lss rfl rfl rfl ?_
    refine r_pickF rfl rfl hg2_3 ?_
    refine LW.nil (thenE_norm ⟨rfl, rfl, rfl⟩)
  · simp only [List.take_succ_cons, List.take_zero]
    refine LW.skip rfl (fun _ e => by cases e; decide) rfl hg2_3 ?_
    refine LW.skip rfl (fun _ e => by cases e; decide) rfl hg2_3 ?_
    refine LW.skip rfl (fun _ e => by cases e; decide) rfl hg2_3 ?_
    refine LW.skip rfl (fun _ e => by cases e; decide) rfl hg2_3 ?_
    refine r_pickT rfl rfl hg2_3 ?_
    refine LW.nil (thenE_norm ⟨rfl, rfl, rfl⟩)
  simp only [setL, keepE, upd_get, ev, Nat.reduceEqDiff, ↓reduceIte]; simp only [List.drop_succ_cons, List.drop_zero]
  refine r_assign rfl ?_
  refine LW.nil ?_
  refine thenE_norm (h4 _ _ ?_); clear h4; try clear K4
  refine CW.cond rfl (fun hc1 => ?_) (fun hc1 => ?_)
  · try simp only [decide_eq_true_eq, decide_eq_false_iff_not, Bool.and_eq_true, Bool.or_eq_true, Bool.and_eq_false_iff, Bool.or_eq_false_iff, Bool.not_eq_true', Bool.not_eq_false', beq_iff_eq, bne_iff_ne, ne_eq, Decidable.not_not] at hc1
    refine CW.seq (fun K5 h5 => ?_)
    refine CW.region ?_
    refine r_assign rfl ?_
    refine LW.nil ?_
    refine thenE_norm (h5 _ _ ?_); clear h5; try clear K5
    refine CW.ret (blockE_ret (thenE_ret (ret1 Try.results67 (by simp only [upd_get, ev, Nat.reduceEqDiff, ↓reduceIte]; rfl) ?_)))
    rw [if_pos hc1]
    exact ⟨rfl, H.ext⟩
  · try simp only [decide_eq_true_eq, decide_eq_false_iff_not, Bool.and_eq_true, Bool.or_eq_true, Bool.and_eq_false_iff, Bool.or_eq_false_iff, Bool.not_eq_true', Bool.not_eq_false', beq_iff_eq, bne_iff_ne, ne_eq, Decidable.not_not] at hc1
    refine CW.seq (fun K6 h6 => ?_)
    refine CW.region ?_
    refine r_fieldAddrO rfl Try.underlying80 rfl Try.sizeOf3 (by decide) (show _ = 1 from rfl) rfl ?_
    refine r_load rfl Try.isAgg3 rfl (by first | exact SH.cellB H (by (repeat first | exact At.here | apply At.there); done) (by rfl) | assumption) ?_
    refine r_move rfl ?_
    refine r_eql rfl rfl rfl ?_
    refine r_assign rfl ?_
    refine LW.nil ?_
    refine thenE_norm (h6 _ _ ?_); clear h6; try clear K6
    refine CW.cond rfl (fun hc2 => ?_) (fun hc2 => ?_)
    · try simp only [decide_eq_true_eq, decide_eq_false_iff_not, Bool.and_eq_true, Bool.or_eq_true, Bool.and_eq_false_iff, Bool.or_eq_false_iff, Bool.not_eq_true', Bool.not_eq_false', beq_iff_eq, bne_iff_ne, ne_eq, Decidable.not_not] at hc2
      refine CW.seq (fun K7 h7 => ?_)
      refine CW.region ?_
      refine r_assign rfl ?_
      refine LW.nil ?_
      refine thenE_norm (h7 _ _ ?_); clear h7; try clear K7
      refine CW.ret (blockE_ret (thenE_ret (ret1 Try.results67 (by simp only [upd_get, ev, Nat.reduceEqDiff, ↓reduceIte]; rfl) ?_)))
      rw [if_neg (by simpa using hc1), if_pos hc2]
      exact ⟨rfl, H.ext⟩
    · try simp only [decide_eq_true_eq, decide_eq_false_iff_not, Bool.and_eq_true, Bool.or_eq_true, Bool.and_eq_false_iff, Bool.or_eq_false_iff, Bool.not_eq_true', Bool.not_eq_false', beq_iff_eq, bne_iff_ne, ne_eq, Decidable.not_not] at hc2
      refine CW.skip ?_
      refine blockE_norm ?_
      refine thenE_norm (h3 _ _ ?_); clear h3; try clear K3
      refine CW.seq (fun K8 h8 => ?_)
      refine CW.region ?_
      refine r_assign rfl ?_
      refine LW.nil ?_
      refine thenE_norm (h8 _ _ ?_); clear h8; try clear K8
      refine CW.ret (ret1 Try.results67 (by simp only [upd_get, ev, Nat.reduceEqDiff, ↓reduceIte]; rfl) ?_)
      rw [if_neg (by simpa using hc1), if_neg hc2]
      exact ⟨rfl, H.ext⟩
def oldW (ms : List Mem) (x : Wt) : Bool := decide (freshM ms x.req.client x.req.seq ≠ 1)
def backW (done : Int) (x : Wt) : Wt := if x.slot ≤ done then { x with slot := 0 } else x
def trimW (ws : List Wt) (ms : List Mem) (done : Int) : List Wt := (ws.filter fun x => !oldW ms x).map (backW done)
theorem trimW_snoc {ws : List Wt} {i : Nat} {x : Wt} (ms : List Mem) (done : Int) (hx : ws[i]? = some x) : trimW (ws.take (i + 1)) ms done = trimW (ws.take i) ms done ++ (if oldW ms x = true then [] else [backW done x]) := by
  rw [trimW, filter_snoc hx, List.map_append, ← trimW]
  cases oldW ms x <;> simp
set_option maxHeartbeats 4000000 in
theorem RTrim_c {F : Nat → Prop} {q : Nat} {ws : List Wt} {FN : Nat → Prop} {mv : Value} {ms : List Mem} (done : Int) (w : World) (hN : RPoolA q ws FN w) (hr : Rs F w mv ms) (hd : ∀ b, F b → ¬ FN b) :
    Calls Try.prog 55 #[.pointer (some ⟨q, 0, none⟩), mv, .int .i64 done] w fun e w' => ∃ FN', e = .returned (.tuple #[]) ∧ SH FN Non w w' [.P FN' (RPoolA q (trimW ws ms done) FN')] := by
  obtain ⟨hl6, v, gp, hA⟩ := hN
  have H := SH.argU (SH.obj (G := Any) hA) hr hd
  refine calls_of_CW Try.func55 rfl Try.ntmps55 (Nat.le_of_ble_eq_true rfl) ?_
  simp only [argE, argFrom, Nat.reduceAdd]
  refine CW.seq (fun K1 h1 => ?_)
  refine CW.region ?_
  refine r_assign rfl ?_
  refine LW.nil ?_
  refine thenE_norm (h1 _ _ ?_); clear h1; try clear K1
  refine CW.seq (fun K2 h2 => ?_)
  refine CW.seq (fun K3 h3 => ?_)
  refine CW.region ?_
  refine r_assign rfl ?_
  refine LW.nil ?_
  refine thenE_norm (h3 _ _ ?_); clear h3; try clear K3
  refine CW.block ?_
  refine CW.loopR [0, 1, 2] [6, 7] (fun m vs w' => ∃ (i : Nat) (u : Value) (g : Option Nat), vs = [u, .int .i64 i] ∧ i ≤ ws.length ∧ m = ws.length - i ∧ SH FN Any w w' [.B q 77 [v], .O 128 v ws gp, .R (fun b => F b ∧ b < w.heap.size) mv ms, .O 128 u (trimW (ws.take i) ms done) g]) (ws.length) ?_ ?_
  · exact ⟨0, .slice none 0 0, none, rfl, by omega, by omega, H.addO (α := Wt) 128⟩
  try clear H
  rintro n1 vs1 wL1 σ ⟨i, u, g, rfl, hi, rfl, H⟩
  simp only [setL, keepE, upd_get, ev, Nat.reduceEqDiff, ↓reduceIte]
  refine CW.seq (fun K4 h4 => ?_)
  refine CW.seq (fun K5 h5 => ?_)
  refine CW.region ?_
  refine r_move rfl ?_
  refine r_move rfl ?_
  refine r_nilCheck rfl rfl ?_
  refine r_fieldAddrO rfl Try.underlying77 rfl Try.sizeOf75 (by decide) (show _ = 0 from rfl) rfl ?_
  refine r_load rfl Try.isAgg75 rfl (by first | exact SH.cellB H (by (repeat first | exact At.here | apply At.there); done) (by rfl) | exact SH.cellI H (by (repeat first | exact At.here | apply At.there); done) (by rfl) | assumption) ?_
  first
    | refine r_lenV rfl Try.underlying75 (by simp only [upd_get, ev, Nat.reduceEqDiff, ↓reduceIte] <;> rfl) (by first | assumption | exact SH.rsR H (by (repeat first | exact At.here | apply At.there); done) | exact SH.rsO H (by (repeat first | exact At.here | apply At.there); done) | exact (Rs.nil : Rs Non _ _ _)) ?_
    | refine r_len rfl Try.underlying75 rfl ?_
  refine r_lss rfl rfl rfl ?_
  refine LW.nil ?_
  refine thenE_norm (h5 _ _ ?_); clear h5; try clear K5
  refine CW.cond rfl (fun hc1 => ?_) (fun hc1 => ?_)
  · try simp only [decide_eq_true_eq, decide_eq_false_iff_not, Bool.and_eq_true, Bool.or_eq_true, Bool.and_eq_false_iff, Bool.or_eq_false_iff, Bool.not_eq_true', Bool.not_eq_false', beq_iff_eq, bne_iff_ne, ne_eq, Decidable.not_not] at hc1
    refine CW.skip ?_
    refine thenE_norm (h4 _ _ ?_); clear h4; try clear K4
    refine CW.seq (fun K6 h6 => ?_)
    refine CW.block ?_
    refine CW.seq (fun K7 h7 => ?_)
    obtain ⟨x, hx⟩ := get_of_lt (show i < ws.length by omega)
    have hts := trimW_snoc ms done hx
    have htl : (trimW (ws.take i) ms done).length ≤ 6 := by
      have := List.length_filter_le (fun x => !oldW ms x) (ws.take i)
      rw [trimW, List.length_map]
      rw [List.length_take] at this
      omega
    refine CW.region ?_
    refine r_move rfl ?_
    refine r_nilCheck rfl rfl ?_
    refine r_fieldAddrO rfl Try.underlying77 rfl Try.sizeOf75 (by decide) (show _ = 0 from rfl) rfl ?_
    refine r_load rfl Try.isAgg75 rfl (by first | exact SH.cellB H (by (repeat first | exact At.here | apply At.there); done) (by rfl) | exact SH.cellI H (by (repeat first | exact At.here | apply At.there); done) (by rfl) | assumption) ?_
    refine r_move rfl ?_
    refine r_indexAddrV rfl Try.underlying75 (by simp only [upd_get, ev, Nat.reduceEqDiff, ↓reduceIte] <;> rfl) rfl (by first | assumption | exact SH.rsR H (by (repeat first | exact At.here | apply At.there); done) | exact SH.rsO H (by (repeat first | exact At.here | apply At.there); done) | exact (Rs.nil : Rs Non _ _ _)) (by exact Try.sizeOf128) (by omega) (by omega) ?_
    refine r_loadA rfl Try.isAgg128 Try.sizeOf128 rfl (by first | exact Rs.cells0 (by first | assumption | exact SH.rsR H (by (repeat first | exact At.here | apply At.there); done) | exact SH.rsO H (by (repeat first | exact At.here | apply At.there); done) | exact (Rs.nil : Rs Non _ _ _)) (by assumption)) (by rfl) ?_
    refine s_alloc (cs := [.int .i64 0, .int .i64 0, .int .i64 0, .int .i64 0, .string (ByteArray.mk #[]), .int .i64 0, .int .i64 0, .int .i64 0, .bool false]) H rfl Try.zeroValue128 rfl ?_
    clear H
    intro b4_7 w4_7 H
    try dsimp only [replC, List.cons_append, List.nil_append, List.append_nil, agg, cellsL, Value.cells, List.toList_toArray, List.set_cons_zero, List.set_cons_succ, spliceL, List.take_succ_cons, List.take_zero, List.drop_succ_cons, List.drop_zero, List.length_cons, List.length_nil, Nat.reduceAdd, Row.cells, Gr.L, Rep.L, Mem.L, Cm.L, Rq.L, Ent.L, ActP.L, Wt.L] at H
    refine s_storeA H Try.sizeOf128 rfl (by simp only [upd_get, ev, Nat.reduceEqDiff, ↓reduceIte] <;> rfl) (by simp only [cellsL, agg, List.toList_toArray, Row.cells, Gr.L, Rep.L, Mem.L, Cm.L, Rq.L, Ent.L, ActP.L, Wt.L] <;> rfl) (by rfl) (by first | rfl | assumption | exact Rs.oneC (by first | assumption | exact SH.rsR H (by (repeat first | exact At.here | apply At.there); done) | exact SH.rsO H (by (repeat first | exact At.here | apply At.there); done) | exact (Rs.nil : Rs Non _ _ _)) | (simp only [List.all_cons, List.all_nil, Bool.and_true, Bool.and_eq_true, Row.cells, Gr.L, Rep.L, Mem.L, Cm.L, Rq.L, Ent.L, ActP.L, Wt.L]; (repeat' constructor) <;> first | rfl | assumption | exact Rs.oneC (by first | assumption | exact SH.rsR H (by (repeat first | exact At.here | apply At.there); done) | exact SH.rsO H (by (repeat first | exact At.here | apply At.there); done) | exact (Rs.nil : Rs Non _ _ _)))) (by (repeat first | exact At.here | apply At.there); done) (by first | (simp; done) | decide | (show _ ≤ _; decide)) ?_
    clear H
    intro w4_8 H
    try dsimp only [replC, List.cons_append, List.nil_append, List.append_nil, agg, cellsL, Value.cells, List.toList_toArray, List.set_cons_zero, List.set_cons_succ, spliceL, List.take_succ_cons, List.take_zero, List.drop_succ_cons, List.drop_zero, List.length_cons, List.length_nil, Nat.reduceAdd, Row.cells, Gr.L, Rep.L, Mem.L, Cm.L, Rq.L, Ent.L, ActP.L, Wt.L] at H
    refine LW.nil ?_
    refine thenE_norm ?_
    refine cut (K := K7) [0, 1, 2, 6, 7, 8] (fun σ => ?_)
    simp only [setL, keepE, upd_get, ev, Nat.reduceEqDiff, ↓reduceIte]
    refine h7 _ _ ?_; clear h7; try clear K7
    refine CW.seq (fun K8 h8 => ?_)
    refine CW.seq (fun K9 h9 => ?_)
    refine CW.region ?_
    refine r_move rfl ?_
    refine r_fieldAddrO rfl Try.underlying128 rfl Try.sizeOf29 (by decide) (show _ = 0 from rfl) rfl ?_
    refine r_fieldAddrO rfl Try.underlying29 rfl Try.sizeOf3 (by decide) (show _ = 0 from rfl) rfl ?_
    refine r_load rfl Try.isAgg3 rfl (by first | exact SH.cellB H (by (repeat first | exact At.here | apply At.there); done) (by rfl) | assumption) ?_
    refine r_fieldAddrO rfl Try.underlying128 rfl Try.sizeOf29 (by decide) (show _ = 0 from rfl) rfl ?_
    refine r_fieldAddrO rfl Try.underlying29 rfl Try.sizeOf3 (by decide) (show _ = 1 from rfl) rfl ?_
    refine r_load rfl Try.isAgg3 rfl (by first | exact SH.cellB H (by (repeat first | exact At.here | apply At.there); done) (by rfl) | assumption) ?_
    refine r_call rfl Try.call67 (by simp only [List.map_cons, List.map_nil, List.map_toArray, List.toList_toArray, upd_get, ev, Nat.reduceEqDiff, ↓reduceIte] <;> rfl) (FreshR_c _ _ _ (by first | assumption | exact SH.rsR H (by (repeat first | exact At.here | apply At.there); done) | exact SH.rsO H (by (repeat first | exact At.here | apply At.there); done) | exact (Rs.nil : Rs Non _ _ _))) ?_
    rintro _ w5_7 ⟨rfl, X⟩
    refine ⟨_, rfl, ?_⟩
    replace H := SH.same H X
    clear X
    refine r_neq rfl rfl rfl ?_
    refine LW.nil ?_
    refine thenE_norm ?_
    refine cut (K := K9) [0, 1, 2, 6, 7, 8, 33] (fun σ => ?_)
    simp only [setL, keepE, upd_get, ev, Nat.reduceEqDiff, ↓reduceIte]
    refine h9 _ _ ?_; clear h9; try clear K9
    refine CW.cond rfl (fun hc2 => ?_) (fun hc2 => ?_)
    · try simp only [decide_eq_true_eq, decide_eq_false_iff_not, Bool.and_eq_true, Bool.or_eq_true, Bool.and_eq_false_iff, Bool.or_eq_false_iff, Bool.not_eq_true', Bool.not_eq_false', beq_iff_eq, bne_iff_ne, ne_eq, Decidable.not_not] at hc2
      refine CW.exit (thenE_exit (blockE_hit ?_))
      refine thenE_norm (h6 _ _ ?_); clear h6; try clear K6
      refine CW.region ?_
      refine r_move rfl ?_
      refine r_add rfl rfl rfl (wr_i64 (by omega) (by omega)) ?_
      refine r_assign rfl ?_
      refine LW.nil ?_
      refine thenE_norm ⟨rfl, ?_⟩
      have ho : oldW ms x = true := by rw [oldW]; exact decide_eq_true hc2
      exact ⟨ws.length - (i + 1), by omega, i + 1, _, _, rfl, by omega, rfl, by rw [hts, if_pos ho, List.append_nil]; exact SH.sel H [0, 1, 2, 3] (by decide) rfl⟩
    · try simp only [decide_eq_true_eq, decide_eq_false_iff_not, Bool.and_eq_true, Bool.or_eq_true, Bool.and_eq_false_iff, Bool.or_eq_false_iff, Bool.not_eq_true', Bool.not_eq_false', beq_iff_eq, bne_iff_ne, ne_eq, Decidable.not_not] at hc2
      refine CW.skip ?_
      refine thenE_norm (h8 _ _ ?_); clear h8; try clear K8
      refine CW.seq (fun K10 h10 => ?_)
      refine CW.seq (fun K11 h11 => ?_)
      refine CW.region ?_
      refine r_fieldAddrO rfl Try.underlying128 rfl Try.sizeOf3 (by decide) (show _ = 6 from rfl) rfl ?_
      refine r_load rfl Try.isAgg3 rfl (by first | exact SH.cellB H (by (repeat first | exact At.here | apply At.there); done) (by rfl) | assumption) ?_
      refine r_move rfl ?_
      refine r_leq rfl rfl rfl ?_
      refine LW.nil ?_
      refine thenE_norm (h11 _ _ ?_); clear h11; try clear K11
      refine CW.cond rfl (fun hc3 => ?_) (fun hc3 => ?_)
      · try simp only [decide_eq_true_eq, decide_eq_false_iff_not, Bool.and_eq_true, Bool.or_eq_true, Bool.and_eq_false_iff, Bool.or_eq_false_iff, Bool.not_eq_true', Bool.not_eq_false', beq_iff_eq, bne_iff_ne, ne_eq, Decidable.not_not] at hc3
        refine CW.region ?_
        refine r_fieldAddrO rfl Try.underlying128 rfl Try.sizeOf3 (by decide) (show _ = 6 from rfl) rfl ?_
        refine s_store H Try.sizeOf3 rfl (by simp only [upd_get, ev, Nat.reduceEqDiff, ↓reduceIte] <;> rfl) (by first | rfl | assumption | exact Rs.oneC (by first | assumption | exact SH.rsR H (by (repeat first | exact At.here | apply At.there); done) | exact SH.rsO H (by (repeat first | exact At.here | apply At.there); done) | exact (Rs.nil : Rs Non _ _ _)) | (simp only [List.all_cons, List.all_nil, Bool.and_true, Bool.and_eq_true, Row.cells, Gr.L, Rep.L, Mem.L, Cm.L, Rq.L, Ent.L, ActP.L, Wt.L]; (repeat' constructor) <;> first | rfl | assumption | exact Rs.oneC (by first | assumption | exact SH.rsR H (by (repeat first | exact At.here | apply At.there); done) | exact SH.rsO H (by (repeat first | exact At.here | apply At.there); done) | exact (Rs.nil : Rs Non _ _ _)))) (by (repeat first | exact At.here | apply At.there); done) (by first | (simp; done) | decide | omega) ?_
        clear H
        intro w7_1 H
        try dsimp only [replC, List.cons_append, List.nil_append, List.append_nil, agg, cellsL, Value.cells, List.toList_toArray, List.set_cons_zero, List.set_cons_succ, spliceL, List.take_succ_cons, List.take_zero, List.drop_succ_cons, List.drop_zero, List.length_cons, List.length_nil, Nat.reduceAdd, Row.cells, Gr.L, Rep.L, Mem.L, Cm.L, Rq.L, Ent.L, ActP.L, Wt.L] at H
        refine LW.nil ?_
        refine thenE_norm (h10 _ _ ?_); clear h10; try clear K10
        refine CW.region ?_
        refine r_move rfl ?_
        refine r_loadA rfl Try.isAgg128 Try.sizeOf128 rfl (by first | exact SH.cells H (by (repeat first | exact At.here | apply At.there); done)) (by rfl) ?_
        refine r_buildSliceA (vs := [_]) rfl Try.underlying75 Try.sizeOf128 Try.zeroValue128 rfl rfl rfl rfl (by simp only [List.map_cons, List.map_nil, List.toList_toArray, numbered, Nat.reduceAdd, upd_get, ev, Nat.reduceEqDiff, ↓reduceIte] <;> rfl) rfl (by intro v hv; simp only [List.mem_cons, List.not_mem_nil, or_false] at hv; rcases hv with rfl <;> rfl) ?_
        intro b8_2 w8_2 hb8_2 hs8_2 hE8_2 hB8_2
        replace H := SH.call H (SH.fromB hE8_2 hb8_2 hs8_2 hB8_2)
        clear hb8_2 hs8_2 hE8_2 hB8_2
        try dsimp only [replC, List.cons_append, List.nil_append, List.append_nil, agg, cellsL, Value.cells, List.toList_toArray, List.set_cons_zero, List.set_cons_succ, spliceL, List.take_succ_cons, List.take_zero, List.drop_succ_cons, List.drop_zero, List.length_cons, List.length_nil, Nat.reduceAdd, Row.cells, Gr.L, Rep.L, Mem.L, Cm.L, Rq.L, Ent.L, ActP.L, Wt.L] at H
        replace H := SH.row (b := b8_2) (xs := ([{ x with slot := 0 }] : List Wt)) (n := 1) (cap := 1) H (by (repeat first | exact At.here | apply At.there); done) (by simp only [flat, List.flatMap_cons, List.flatMap_nil, cellsL, agg, List.append_nil, List.cons_append, List.nil_append, List.toList_toArray, Row.cells, Gr.L, Rep.L, Mem.L, Cm.L, Rq.L, Ent.L, ActP.L, Wt.L] <;> rfl) (by intro x hx; first | rfl | (simp at hx; done) | (simp only [List.mem_cons, List.not_mem_nil, or_false] at hx; rcases hx with rfl <;> first | rfl | exact (by first | rfl | assumption | exact Rs.oneC (by first | assumption | exact SH.rsR H (by (repeat first | exact At.here | apply At.there); done) | exact SH.rsO H (by (repeat first | exact At.here | apply At.there); done) | exact (Rs.nil : Rs Non _ _ _)) | (simp only [List.all_cons, List.all_nil, Bool.and_true, Bool.and_eq_true, Row.cells, Gr.L, Rep.L, Mem.L, Cm.L, Rq.L, Ent.L, ActP.L, Wt.L]; (repeat' constructor) <;> first | rfl | assumption | exact Rs.oneC (by first | assumption | exact SH.rsR H (by (repeat first | exact At.here | apply At.there); done) | exact SH.rsO H (by (repeat first | exact At.here | apply At.there); done) | exact (Rs.nil : Rs Non _ _ _)))))) (by rfl) rfl (by decide)
        try dsimp only [replC, List.cons_append, List.nil_append, List.append_nil, agg, cellsL, Value.cells, List.toList_toArray, List.set_cons_zero, List.set_cons_succ, spliceL, List.take_succ_cons, List.take_zero, List.drop_succ_cons, List.drop_zero, List.length_cons, List.length_nil, Nat.reduceAdd, Row.cells, Gr.L, Rep.L, Mem.L, Cm.L, Rq.L, Ent.L, ActP.L, Wt.L] at H
        refine s_append H rfl Try.underlying75 Try.underlying75 Try.type128 rfl (by simp only [upd_get, ev, Nat.reduceEqDiff, ↓reduceIte] <;> rfl) (by simp only [upd_get, ev, Nat.reduceEqDiff, ↓reduceIte] <;> rfl) (by (repeat first | exact At.here | apply At.there); done) (by first | assumption | exact SH.rsR H (by (repeat first | exact At.here | apply At.there); done) | exact SH.rsO H (by (repeat first | exact At.here | apply At.there); done) | exact (Rs.nil : Rs Non _ _ _)) (by rfl) (by rfl) (by first | omega | (simp only [Try.t128, List.length_append, List.length_cons, List.length_nil, List.length_map, maxLen]; omega) | (simp [Try.t128, maxLen]; omega)) (by first | omega | (simp only [Try.t128, List.length_append, List.length_cons, List.length_nil, List.length_map, maxLen]; omega) | (simp [Try.t128, maxLen]; omega)) ?_
        clear H
        intro v8_3 w8_3 g8_3 H hN8_3
        try dsimp only [replC, List.cons_append, List.nil_append, List.append_nil] at H
        refine r_assign rfl ?_
        refine LW.nil ?_
        refine blockE_norm ?_
        refine thenE_norm (h6 _ _ ?_); clear h6; try clear K6
        refine CW.region ?_
        refine r_move rfl ?_
        refine r_add rfl rfl rfl (wr_i64 (by omega) (by omega)) ?_
        refine r_assign rfl ?_
        refine LW.nil ?_
        refine thenE_norm ⟨rfl, ?_⟩
        have ho : ¬ oldW ms x = true := by rw [oldW]; simpa using hc2
        exact ⟨ws.length - (i + 1), by omega, i + 1, _, _, rfl, by omega, rfl, by rw [hts, if_neg ho, backW, if_pos hc3]; exact SH.sel H [0, 1, 2, 3] (by decide) rfl⟩
      · try simp only [decide_eq_true_eq, decide_eq_false_iff_not, Bool.and_eq_true, Bool.or_eq_true, Bool.and_eq_false_iff, Bool.or_eq_false_iff, Bool.not_eq_true', Bool.not_eq_false', beq_iff_eq, bne_iff_ne, ne_eq, Decidable.not_not] at hc3
        refine CW.skip ?_
        refine thenE_norm (h10 _ _ ?_); clear h10; try clear K10
        refine CW.region ?_
        refine r_move rfl ?_
        refine r_loadA rfl Try.isAgg128 Try.sizeOf128 rfl (by first | exact SH.cells H (by (repeat first | exact At.here | apply At.there); done)) (by rfl) ?_
        refine r_buildSliceA (vs := [_]) rfl Try.underlying75 Try.sizeOf128 Try.zeroValue128 rfl rfl rfl rfl (by simp only [List.map_cons, List.map_nil, List.toList_toArray, numbered, Nat.reduceAdd, upd_get, ev, Nat.reduceEqDiff, ↓reduceIte] <;> rfl) rfl (by intro v hv; simp only [List.mem_cons, List.not_mem_nil, or_false] at hv; rcases hv with rfl <;> rfl) ?_
        intro b8_2 w8_2 hb8_2 hs8_2 hE8_2 hB8_2
        replace H := SH.call H (SH.fromB hE8_2 hb8_2 hs8_2 hB8_2)
        clear hb8_2 hs8_2 hE8_2 hB8_2
        try dsimp only [replC, List.cons_append, List.nil_append, List.append_nil, agg, cellsL, Value.cells, List.toList_toArray, List.set_cons_zero, List.set_cons_succ, spliceL, List.take_succ_cons, List.take_zero, List.drop_succ_cons, List.drop_zero, List.length_cons, List.length_nil, Nat.reduceAdd, Row.cells, Gr.L, Rep.L, Mem.L, Cm.L, Rq.L, Ent.L, ActP.L, Wt.L] at H
        replace H := SH.row (b := b8_2) (xs := ([x] : List Wt)) (n := 1) (cap := 1) H (by (repeat first | exact At.here | apply At.there); done) (by simp only [flat, List.flatMap_cons, List.flatMap_nil, cellsL, agg, List.append_nil, List.cons_append, List.nil_append, List.toList_toArray, Row.cells, Gr.L, Rep.L, Mem.L, Cm.L, Rq.L, Ent.L, ActP.L, Wt.L] <;> rfl) (by intro x hx; first | rfl | (simp at hx; done) | (simp only [List.mem_cons, List.not_mem_nil, or_false] at hx; rcases hx with rfl <;> first | rfl | exact (by first | rfl | assumption | exact Rs.oneC (by first | assumption | exact SH.rsR H (by (repeat first | exact At.here | apply At.there); done) | exact SH.rsO H (by (repeat first | exact At.here | apply At.there); done) | exact (Rs.nil : Rs Non _ _ _)) | (simp only [List.all_cons, List.all_nil, Bool.and_true, Bool.and_eq_true, Row.cells, Gr.L, Rep.L, Mem.L, Cm.L, Rq.L, Ent.L, ActP.L, Wt.L]; (repeat' constructor) <;> first | rfl | assumption | exact Rs.oneC (by first | assumption | exact SH.rsR H (by (repeat first | exact At.here | apply At.there); done) | exact SH.rsO H (by (repeat first | exact At.here | apply At.there); done) | exact (Rs.nil : Rs Non _ _ _)))))) (by rfl) rfl (by decide)
        try dsimp only [replC, List.cons_append, List.nil_append, List.append_nil, agg, cellsL, Value.cells, List.toList_toArray, List.set_cons_zero, List.set_cons_succ, spliceL, List.take_succ_cons, List.take_zero, List.drop_succ_cons, List.drop_zero, List.length_cons, List.length_nil, Nat.reduceAdd, Row.cells, Gr.L, Rep.L, Mem.L, Cm.L, Rq.L, Ent.L, ActP.L, Wt.L] at H
        refine s_append H rfl Try.underlying75 Try.underlying75 Try.type128 rfl (by simp only [upd_get, ev, Nat.reduceEqDiff, ↓reduceIte] <;> rfl) (by simp only [upd_get, ev, Nat.reduceEqDiff, ↓reduceIte] <;> rfl) (by (repeat first | exact At.here | apply At.there); done) (by first | assumption | exact SH.rsR H (by (repeat first | exact At.here | apply At.there); done) | exact SH.rsO H (by (repeat first | exact At.here | apply At.there); done) | exact (Rs.nil : Rs Non _ _ _)) (by rfl) (by rfl) (by first | omega | (simp only [Try.t128, List.length_append, List.length_cons, List.length_nil, List.length_map, maxLen]; omega) | (simp [Try.t128, maxLen]; omega)) (by first | omega | (simp only [Try.t128, List.length_append, List.length_cons, List.length_nil, List.length_map, maxLen]; omega) | (simp [Try.t128, maxLen]; omega)) ?_
        clear H
        intro v8_3 w8_3 g8_3 H hN8_3
        try dsimp only [replC, List.cons_append, List.nil_append, List.append_nil] at H
        refine r_assign rfl ?_
        refine LW.nil ?_
        refine blockE_norm ?_
        refine thenE_norm (h6 _ _ ?_); clear h6; try clear K6
        refine CW.region ?_
        refine r_move rfl ?_
        refine r_add rfl rfl rfl (wr_i64 (by omega) (by omega)) ?_
        refine r_assign rfl ?_
        refine LW.nil ?_
        refine thenE_norm ⟨rfl, ?_⟩
        have ho : ¬ oldW ms x = true := by rw [oldW]; simpa using hc2
        exact ⟨ws.length - (i + 1), by omega, i + 1, _, _, rfl, by omega, rfl, by rw [hts, if_neg ho, backW, if_neg hc3]; exact SH.sel H [0, 1, 2, 3] (by decide) rfl⟩
  · try simp only [decide_eq_true_eq, decide_eq_false_iff_not, Bool.and_eq_true, Bool.or_eq_true, Bool.and_eq_false_iff, Bool.or_eq_false_iff, Bool.not_eq_true', Bool.not_eq_false', beq_iff_eq, bne_iff_ne, ne_eq, Decidable.not_not] at hc1
    refine CW.exit (thenE_exit (thenE_exit (blockE_hit ?_)))
    refine thenE_norm (h2 _ _ ?_); clear h2; try clear K2
    obtain rfl : i = ws.length := by omega
    rw [List.take_length] at H
    have htl : (trimW ws ms done).length ≤ 6 := by
      have := List.length_filter_le (fun x => !oldW ms x) ws
      rw [trimW, List.length_map]
      omega
    refine CW.region ?_
    refine r_move rfl ?_
    refine r_move rfl ?_
    refine r_nilCheck rfl rfl ?_
    refine r_fieldAddrO rfl Try.underlying77 rfl Try.sizeOf75 (by decide) (show _ = 0 from rfl) rfl ?_
    refine s_store H Try.sizeOf75 rfl (by simp only [upd_get, ev, Nat.reduceEqDiff, ↓reduceIte] <;> rfl) (by first | rfl | assumption | exact Rs.oneC (by first | assumption | exact SH.rsR H (by (repeat first | exact At.here | apply At.there); done) | exact SH.rsO H (by (repeat first | exact At.here | apply At.there); done) | exact (Rs.nil : Rs Non _ _ _)) | (simp only [List.all_cons, List.all_nil, Bool.and_true, Bool.and_eq_true, Row.cells, Gr.L, Rep.L, Mem.L, Cm.L, Rq.L, Ent.L, ActP.L, Wt.L]; (repeat' constructor) <;> first | rfl | assumption | exact Rs.oneC (by first | assumption | exact SH.rsR H (by (repeat first | exact At.here | apply At.there); done) | exact SH.rsO H (by (repeat first | exact At.here | apply At.there); done) | exact (Rs.nil : Rs Non _ _ _)))) (by (repeat first | exact At.here | apply At.there); done) (by first | (simp; done) | decide | omega) ?_
    clear H
    intro w9_4 H
    try dsimp only [replC, List.cons_append, List.nil_append, List.append_nil, agg, cellsL, Value.cells, List.toList_toArray, List.set_cons_zero, List.set_cons_succ, spliceL, List.take_succ_cons, List.take_zero, List.drop_succ_cons, List.drop_zero, List.length_cons, List.length_nil, Nat.reduceAdd, Row.cells, Gr.L, Rep.L, Mem.L, Cm.L, Rq.L, Ent.L, ActP.L, Wt.L] at H
    refine LW.nil ?_
    refine end0 Try.results55 ?_
    obtain ⟨FN', K⟩ := RPoolA.mk htl (SH.sel H [0, 3] (by decide) (by rfl))
    exact ⟨_, rfl, K⟩
end Go.Proofs.Ytlfbofnfhhddbaa
