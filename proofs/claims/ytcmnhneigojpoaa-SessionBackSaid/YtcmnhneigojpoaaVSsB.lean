/-
  The walks of layer 6's functions, the second part: places, numbers.
-/
import Derived.Test.YtcmnhneigojpoaaVSsA
namespace Go.Proofs.Ytcmnhneigojpoaa
set_option linter.unusedSimpArgs false
set_option linter.unusedVariables false
set_option maxRecDepth 20000
open Go.V Go.RowKit Go.ChangeShapes Go.WideShapes

set_option maxRecDepth 20000 in
theorem IxfS_c {F : Nat → Prop} {v fv : Value} {xs : List Ses} {S : World → Prop} {p : Ses → Bool} {D : Ses → Prop} (w : World) (hv : Rs F w v xs) (hp : PredF Try.prog S fv agg p D) (hD : ∀ x ∈ xs, D x) (hS : ∀ w', Ext0 w w' → S w') :
    Calls Try.prog 60 #[v, fv] w fun e w' => e = .returned (.int .i64 (findM p xs)) ∧ Ext0 w w' := by
  have h63 := hv.len63
  have H := (SH.start w).arg hv
  obtain ⟨f, fs, cs, rfl, hcf, hcall⟩ := hp
  refine calls_of_CW Try.func60 rfl Try.ntmps60 (Nat.le_of_ble_eq_true rfl) ?_
  simp only [argE, argFrom, Nat.reduceAdd]
  refine CW.seq (fun K1 h1 => ?_)
  refine CW.region ?_
  refine r_assign rfl ?_
  refine LW.nil ?_
  refine thenE_norm (h1 _ _ ?_); clear h1; try clear K1
  refine CW.seq (fun K2 h2 => ?_)
  refine CW.seq (fun K3 h3 => ?_)
  refine CW.region ?_
  refine r_move rfl ?_
  first
    | refine r_lenV rfl Try.underlying48 (by simp only [upd_get, ev, Nat.reduceEqDiff, ↓reduceIte] <;> rfl) (by first | assumption | exact SH.rsR H (by (repeat first | exact At.here | apply At.there); done) | exact SH.rsO H (by (repeat first | exact At.here | apply At.there); done) | exact Rs.toH (by first | assumption | exact SH.rsR H (by (repeat first | exact At.here | apply At.there); done) | exact SH.rsO H (by (repeat first | exact At.here | apply At.there); done)) (by omega) | exact Rs.toL (by first | assumption | exact SH.rsR H (by (repeat first | exact At.here | apply At.there); done) | exact SH.rsO H (by (repeat first | exact At.here | apply At.there); done)) (by omega) | exact Rs.toLH (by first | assumption | exact SH.rsR H (by (repeat first | exact At.here | apply At.there); done) | exact SH.rsO H (by (repeat first | exact At.here | apply At.there); done)) (by omega) (by omega) | exact (Rs.nil : Rs Non _ _ _)) ?_
    | refine r_len rfl Try.underlying48 rfl ?_
  refine r_move rfl ?_
  refine LW.nil ?_
  refine thenE_norm (h3 _ _ ?_); clear h3; try clear K3
  refine CW.block ?_
  refine CW.loopR [0, 1, 7] [8] (fun m vs w' => ∃ i : Nat, vs = [.int .i64 i] ∧ i ≤ xs.length ∧ m = xs.length - i ∧ (xs.take i).any p = false ∧ SH Non Any w w' [.R (Old w) v xs]) (xs.length) ?_ ?_
  · exact ⟨0, rfl, by omega, by omega, by simp, H⟩
  try clear H
  rintro n1 vs1 wL1 σ ⟨i, rfl, hi, rfl, hno, H⟩
  simp only [setL, keepE, upd_get, ev, Nat.reduceEqDiff, ↓reduceIte]
  refine CW.seq (fun K4 h4 => ?_)
  refine CW.region ?_
  refine r_lss rfl rfl rfl ?_
  refine LW.nil ?_
  refine thenE_norm (h4 _ _ ?_); clear h4; try clear K4
  refine CW.seq (fun K5 h5 => ?_)
  refine CW.cond rfl (fun hc1 => ?_) (fun hc1 => ?_)
  · try simp only [decide_eq_true_eq, decide_eq_false_iff_not, Bool.and_eq_true, Bool.or_eq_true, Bool.and_eq_false_iff, Bool.or_eq_false_iff, Bool.not_eq_true', Bool.not_eq_false', beq_iff_eq, bne_iff_ne, ne_eq, Decidable.not_not] at hc1
    refine CW.skip ?_
    refine thenE_norm (h5 _ _ ?_); clear h5; try clear K5
    refine CW.seq (fun K6 h6 => ?_)
    refine CW.block ?_
    refine CW.seq (fun K7 h7 => ?_)
    refine CW.region ?_
    refine r_move rfl ?_
    refine r_assign rfl ?_
    refine LW.nil ?_
    refine thenE_norm (h7 _ _ ?_); clear h7; try clear K7
    refine CW.seq (fun K8 h8 => ?_)
    obtain ⟨x, hx⟩ := get_of_lt (show i < xs.length by omega)
    refine CW.region ?_
    refine r_move rfl ?_
    refine r_move rfl ?_
    refine r_move rfl ?_
    refine r_indexAddrV rfl Try.underlying48 (by simp only [upd_get, ev, Nat.reduceEqDiff, ↓reduceIte] <;> rfl) rfl (by first | assumption | exact SH.rsR H (by (repeat first | exact At.here | apply At.there); done) | exact SH.rsO H (by (repeat first | exact At.here | apply At.there); done) | exact Rs.toH (by first | assumption | exact SH.rsR H (by (repeat first | exact At.here | apply At.there); done) | exact SH.rsO H (by (repeat first | exact At.here | apply At.there); done)) (by omega) | exact Rs.toL (by first | assumption | exact SH.rsR H (by (repeat first | exact At.here | apply At.there); done) | exact SH.rsO H (by (repeat first | exact At.here | apply At.there); done)) (by omega) | exact Rs.toLH (by first | assumption | exact SH.rsR H (by (repeat first | exact At.here | apply At.there); done) | exact SH.rsO H (by (repeat first | exact At.here | apply At.there); done)) (by omega) (by omega) | exact (Rs.nil : Rs Non _ _ _)) (by exact Try.sizeOf52) (by omega) (by omega) ?_
    refine r_loadA rfl Try.isAgg52 Try.sizeOf52 rfl (by first | exact SH.cells H (by (repeat first | exact At.here | apply At.there); done) | exact Rs.cells0 (by first | assumption | exact SH.rsR H (by (repeat first | exact At.here | apply At.there); done) | exact SH.rsO H (by (repeat first | exact At.here | apply At.there); done) | exact Rs.toH (by first | assumption | exact SH.rsR H (by (repeat first | exact At.here | apply At.there); done) | exact SH.rsO H (by (repeat first | exact At.here | apply At.there); done)) (by omega) | exact Rs.toL (by first | assumption | exact SH.rsR H (by (repeat first | exact At.here | apply At.there); done) | exact SH.rsO H (by (repeat first | exact At.here | apply At.there); done)) (by omega) | exact Rs.toLH (by first | assumption | exact SH.rsR H (by (repeat first | exact At.here | apply At.there); done) | exact SH.rsO H (by (repeat first | exact At.here | apply At.there); done)) (by omega) (by omega) | exact (Rs.nil : Rs Non _ _ _)) (by assumption)) (by rfl) ?_
    refine r_callV rfl rfl hcf (by simp only [List.map_cons, List.map_nil, List.map_toArray, List.toList_toArray, upd_get, ev, Nat.reduceEqDiff, ↓reduceIte] <;> rfl) rfl (hcall x _ (hD x (List.mem_of_getElem? hx)) (hS _ H.ext)) ?_
    rintro _ w4_5 ⟨rfl, X⟩
    refine ⟨_, rfl, ?_⟩
    replace H := SH.same H X
    clear X
    refine LW.nil ?_
    refine thenE_norm ?_
    refine cut (K := K8) [0, 1, 5, 7, 8, 16] (fun σ => ?_)
    simp only [setL, keepE, upd_get, ev, Nat.reduceEqDiff, ↓reduceIte]
    refine h8 _ _ ?_; clear h8; try clear K8
    refine CW.cond rfl (fun hc2 => ?_) (fun hc2 => ?_)
    · try simp only [decide_eq_true_eq, decide_eq_false_iff_not, Bool.and_eq_true, Bool.or_eq_true, Bool.and_eq_false_iff, Bool.or_eq_false_iff, Bool.not_eq_true', Bool.not_eq_false', beq_iff_eq, bne_iff_ne, ne_eq, Decidable.not_not] at hc2
      refine CW.seq (fun K9 h9 => ?_)
      refine CW.region ?_
      refine r_move rfl ?_
      refine r_assign rfl ?_
      refine LW.nil ?_
      refine thenE_norm (h9 _ _ ?_); clear h9; try clear K9
      refine CW.ret (blockE_ret (thenE_ret (thenE_ret (blockE_ret (thenE_ret (ret1 Try.results60 (by simp only [upd_get, ev, Nat.reduceEqDiff, ↓reduceIte]; rfl) ?_))))))
      exact ⟨by rw [find_at hx hno hc2], H.ext⟩
    · try simp only [decide_eq_true_eq, decide_eq_false_iff_not, Bool.and_eq_true, Bool.or_eq_true, Bool.and_eq_false_iff, Bool.or_eq_false_iff, Bool.not_eq_true', Bool.not_eq_false', beq_iff_eq, bne_iff_ne, ne_eq, Decidable.not_not] at hc2
      refine CW.skip ?_
      refine blockE_norm ?_
      refine thenE_norm (h6 _ _ ?_); clear h6; try clear K6
      refine CW.region ?_
      refine r_add rfl rfl rfl (wr_i64 (by omega) (by omega)) ?_
      refine r_move rfl ?_
      refine LW.nil ?_
      refine thenE_norm ⟨rfl, ?_⟩
      exact ⟨_, by omega, i + 1, rfl, by omega, rfl, any_snoc hx hno (by simpa using hc2), H⟩
  · try simp only [decide_eq_true_eq, decide_eq_false_iff_not, Bool.and_eq_true, Bool.or_eq_true, Bool.and_eq_false_iff, Bool.or_eq_false_iff, Bool.not_eq_true', Bool.not_eq_false', beq_iff_eq, bne_iff_ne, ne_eq, Decidable.not_not] at hc1
    refine CW.exit (thenE_exit (thenE_exit (blockE_hit ?_)))
    refine thenE_norm (h2 _ _ ?_); clear h2; try clear K2
    refine CW.seq (fun K10 h10 => ?_)
    refine CW.region ?_
    refine r_assign rfl ?_
    refine LW.nil ?_
    refine thenE_norm (h10 _ _ ?_); clear h10; try clear K10
    refine CW.ret (ret1 Try.results60 (by simp only [upd_get, ev, Nat.reduceEqDiff, ↓reduceIte]; rfl) ?_)
    obtain rfl : i = xs.length := by omega
    rw [List.take_length] at hno
    exact ⟨by rw [findM, hno]; rfl, H.ext⟩
set_option maxRecDepth 20000 in
theorem CloneS_c {F : Nat → Prop} {v : Value} {xs : List Ses} (w : World) (hv : Rs F w v xs) (hn : xs.length ≤ 1000000) :
    Calls Try.prog 44 #[v] w fun e w' => ∃ v' g, e = .returned v' ∧ SH Non Non w w' [.O 52 v' xs g] := by
  have H := (SH.start w).arg hv
  refine calls_of_CW Try.func44 rfl Try.ntmps44 (Nat.le_of_ble_eq_true rfl) ?_
  simp only [argE, argFrom, Nat.reduceAdd]
  refine CW.seq (fun K1 h1 => ?_)
  refine CW.region ?_
  refine r_assign rfl ?_
  refine LW.nil ?_
  refine thenE_norm (h1 _ _ ?_); clear h1; try clear K1
  refine CW.seq (fun K2 h2 => ?_)
  refine CW.seq (fun K3 h3 => ?_)
  refine CW.region ?_
  refine r_move rfl ?_
  refine r_eqlV rfl Try.underlying48 (by simp only [upd_get, ev, Nat.reduceEqDiff, ↓reduceIte] <;> rfl) rfl (by first | assumption | exact SH.rsR H (by (repeat first | exact At.here | apply At.there); done) | exact SH.rsO H (by (repeat first | exact At.here | apply At.there); done) | exact Rs.toH (by first | assumption | exact SH.rsR H (by (repeat first | exact At.here | apply At.there); done) | exact SH.rsO H (by (repeat first | exact At.here | apply At.there); done)) (by omega) | exact Rs.toL (by first | assumption | exact SH.rsR H (by (repeat first | exact At.here | apply At.there); done) | exact SH.rsO H (by (repeat first | exact At.here | apply At.there); done)) (by omega) | exact Rs.toLH (by first | assumption | exact SH.rsR H (by (repeat first | exact At.here | apply At.there); done) | exact SH.rsO H (by (repeat first | exact At.here | apply At.there); done)) (by omega) (by omega) | exact (Rs.nil : Rs Non _ _ _)) ?_
  intro c1_1 hn1_1
  refine LW.nil ?_
  refine thenE_norm (h3 _ _ ?_); clear h3; try clear K3
  refine CW.cond rfl (fun hc1 => ?_) (fun hc1 => ?_)
  · try simp only [decide_eq_true_eq, decide_eq_false_iff_not, Bool.and_eq_true, Bool.or_eq_true, Bool.and_eq_false_iff, Bool.or_eq_false_iff, Bool.not_eq_true', Bool.not_eq_false', beq_iff_eq, bne_iff_ne, ne_eq, Decidable.not_not] at hc1
    refine CW.seq (fun K4 h4 => ?_)
    refine CW.region ?_
    refine r_assign rfl ?_
    refine LW.nil ?_
    refine thenE_norm (h4 _ _ ?_); clear h4; try clear K4
    refine CW.ret (thenE_ret (ret1 Try.results44 (by simp only [upd_get, ev, Nat.reduceEqDiff, ↓reduceIte]; rfl) ?_))
    obtain rfl := hn1_1 hc1
    exact ⟨_, _, rfl, SH.give (H.addO (α := Ses) 52) (by repeat first | exact List.Sublist.refl _ | exact List.nil_sublist _ | apply List.Sublist.cons_cons | apply List.Sublist.cons) ⟨trivial, trivial⟩⟩
  · try simp only [decide_eq_true_eq, decide_eq_false_iff_not, Bool.and_eq_true, Bool.or_eq_true, Bool.and_eq_false_iff, Bool.or_eq_false_iff, Bool.not_eq_true', Bool.not_eq_false', beq_iff_eq, bne_iff_ne, ne_eq, Decidable.not_not] at hc1
    refine CW.skip ?_
    refine thenE_norm (h2 _ _ ?_); clear h2; try clear K2
    refine CW.seq (fun K5 h5 => ?_)
    refine CW.region ?_
    refine r_buildSlice0 rfl Try.underlying48 Try.sizeOf52 rfl ?_
    intro b3_0 w3_0 hb3_0 hs3_0 hE3_0 hB3_0
    replace H := SH.call H (SH.fromB hE3_0 hb3_0 hs3_0 hB3_0)
    clear hb3_0 hs3_0 hE3_0 hB3_0
    try dsimp only [replC, List.cons_append, List.nil_append, List.append_nil, agg, cellsL, Value.cells, List.toList_toArray, List.set_cons_zero, List.set_cons_succ, spliceL, List.take_succ_cons, List.take_zero, List.drop_succ_cons, List.drop_zero, List.length_cons, List.length_nil, Nat.reduceAdd, Row.cells, Ses.L] at H
    replace H := SH.row (b := b3_0) (xs := ([] : List Ses)) (n := 0) (cap := 0) H (by (repeat first | exact At.here | apply At.there); done) (by simp only [flat, List.flatMap_cons, List.flatMap_nil, cellsL, agg, List.append_nil, List.cons_append, List.nil_append, List.toList_toArray, Row.cells, Ses.L] <;> rfl) (by intro x hx; first | rfl | (simp at hx; done) | (simp only [List.mem_cons, List.not_mem_nil, or_false] at hx; rcases hx with rfl <;> first | rfl | exact (by first | rfl | exact Rs.oneC (by first | assumption | exact SH.rsR H (by (repeat first | exact At.here | apply At.there); done) | exact SH.rsO H (by (repeat first | exact At.here | apply At.there); done) | exact Rs.toH (by first | assumption | exact SH.rsR H (by (repeat first | exact At.here | apply At.there); done) | exact SH.rsO H (by (repeat first | exact At.here | apply At.there); done)) (by omega) | exact Rs.toL (by first | assumption | exact SH.rsR H (by (repeat first | exact At.here | apply At.there); done) | exact SH.rsO H (by (repeat first | exact At.here | apply At.there); done)) (by omega) | exact Rs.toLH (by first | assumption | exact SH.rsR H (by (repeat first | exact At.here | apply At.there); done) | exact SH.rsO H (by (repeat first | exact At.here | apply At.there); done)) (by omega) (by omega) | exact (Rs.nil : Rs Non _ _ _)) | (simp only [List.all_cons, List.all_nil, Bool.and_true, Bool.and_eq_true, Row.cells, Ses.L]; (repeat' constructor) <;> first | rfl | exact Rs.oneC (by first | assumption | exact SH.rsR H (by (repeat first | exact At.here | apply At.there); done) | exact SH.rsO H (by (repeat first | exact At.here | apply At.there); done) | exact Rs.toH (by first | assumption | exact SH.rsR H (by (repeat first | exact At.here | apply At.there); done) | exact SH.rsO H (by (repeat first | exact At.here | apply At.there); done)) (by omega) | exact Rs.toL (by first | assumption | exact SH.rsR H (by (repeat first | exact At.here | apply At.there); done) | exact SH.rsO H (by (repeat first | exact At.here | apply At.there); done)) (by omega) | exact Rs.toLH (by first | assumption | exact SH.rsR H (by (repeat first | exact At.here | apply At.there); done) | exact SH.rsO H (by (repeat first | exact At.here | apply At.there); done)) (by omega) (by omega) | exact (Rs.nil : Rs Non _ _ _)))))) (by rfl) rfl (by decide)
    try dsimp only [replC, List.cons_append, List.nil_append, List.append_nil, agg, cellsL, Value.cells, List.toList_toArray, List.set_cons_zero, List.set_cons_succ, spliceL, List.take_succ_cons, List.take_zero, List.drop_succ_cons, List.drop_zero, List.length_cons, List.length_nil, Nat.reduceAdd, Row.cells, Ses.L] at H
    refine r_move rfl ?_
    first
      | refine s_append H rfl Try.underlying48 Try.underlying48 Try.type52 rfl (by simp only [upd_get, ev, Nat.reduceEqDiff, ↓reduceIte] <;> rfl) (by simp only [upd_get, ev, Nat.reduceEqDiff, ↓reduceIte] <;> rfl) (by (repeat first | exact At.here | apply At.there); done) (by first | assumption | exact SH.rsR H (by (repeat first | exact At.here | apply At.there); done) | exact SH.rsO H (by (repeat first | exact At.here | apply At.there); done) | exact Rs.toH (by first | assumption | exact SH.rsR H (by (repeat first | exact At.here | apply At.there); done) | exact SH.rsO H (by (repeat first | exact At.here | apply At.there); done)) (by omega) | exact Rs.toL (by first | assumption | exact SH.rsR H (by (repeat first | exact At.here | apply At.there); done) | exact SH.rsO H (by (repeat first | exact At.here | apply At.there); done)) (by omega) | exact Rs.toLH (by first | assumption | exact SH.rsR H (by (repeat first | exact At.here | apply At.there); done) | exact SH.rsO H (by (repeat first | exact At.here | apply At.there); done)) (by omega) (by omega) | exact (Rs.nil : Rs Non _ _ _)) (by rfl) (by rfl) (by first | omega | (simp only [Try.t52, List.length_append, List.length_cons, List.length_nil, List.length_map, maxLen]; omega) | (simp [Try.t52, maxLen]; omega)) (by first | omega | (simp only [Try.t52, List.length_append, List.length_cons, List.length_nil, List.length_map, maxLen]; omega) | (simp [Try.t52, maxLen]; omega)) ?_
      | refine s_appendNil H rfl Try.underlying48 Try.underlying48 Try.type52 rfl rfl (by simp only [upd_get, ev, Nat.reduceEqDiff, ↓reduceIte] <;> rfl) (by first | assumption | exact SH.rsR H (by (repeat first | exact At.here | apply At.there); done) | exact SH.rsO H (by (repeat first | exact At.here | apply At.there); done) | exact Rs.toH (by first | assumption | exact SH.rsR H (by (repeat first | exact At.here | apply At.there); done) | exact SH.rsO H (by (repeat first | exact At.here | apply At.there); done)) (by omega) | exact Rs.toL (by first | assumption | exact SH.rsR H (by (repeat first | exact At.here | apply At.there); done) | exact SH.rsO H (by (repeat first | exact At.here | apply At.there); done)) (by omega) | exact Rs.toLH (by first | assumption | exact SH.rsR H (by (repeat first | exact At.here | apply At.there); done) | exact SH.rsO H (by (repeat first | exact At.here | apply At.there); done)) (by omega) (by omega) | exact (Rs.nil : Rs Non _ _ _)) (by rfl) (by rfl) (by first | omega | (simp only [Try.t52, List.length_append, List.length_cons, List.length_nil, List.length_map, maxLen]; omega) | (simp [Try.t52, maxLen]; omega)) ?_
    clear H
    intro v3_2 w3_2 g3_2 H hN3_2
    try dsimp only [replC, List.cons_append, List.nil_append, List.append_nil, agg, cellsL, Value.cells, List.toList_toArray, List.set_cons_zero, List.set_cons_succ, spliceL, List.take_succ_cons, List.take_zero, List.drop_succ_cons, List.drop_zero, List.length_cons, List.length_nil, Nat.reduceAdd, Row.cells, Ses.L] at H
    refine r_assign rfl ?_
    refine LW.nil ?_
    refine thenE_norm (h5 _ _ ?_); clear h5; try clear K5
    refine CW.ret (ret1 Try.results44 (by simp only [upd_get, ev, Nat.reduceEqDiff, ↓reduceIte]; rfl) ?_)
    exact ⟨_, _, rfl, (SH.give H (by repeat first | exact List.Sublist.refl _ | exact List.nil_sublist _ | apply List.Sublist.cons_cons | apply List.Sublist.cons) (by repeat first | exact trivial | refine ⟨trivial, ?_⟩))⟩
set_option maxRecDepth 20000 in
theorem DelS_c {v : Value} {xs : List Ses} {g : Option Nat} (i j : Nat) (w : World) (hv : Ow 52 w v xs g) (hij : i < j) (hj : j ≤ xs.length) :
    Calls Try.prog 50 #[v, .int .i64 i, .int .i64 j] w fun e w' => ∃ v', e = .returned v' ∧ SH (fun b => g = some b) Non w w' [.O 52 v' (xs.take i ++ xs.drop j) g] := by
  have h63 := hv.rs.len63
  have H := SH.own1 hv
  obtain ⟨b, cap, cur, rfl, rfl, hnc, hcm, hcl, hct, hone, H⟩ := H.toB At.here (by rintro rfl; simp at hj; omega)
  try dsimp only [replC, List.append_nil, List.cons_append, List.nil_append] at H
  have hc63 : cap ≤ 9223372036854775807 := by simpa [maxLen] using hcm
  have hfl := flat_len xs
  have hs1 : i * Row.sz Ses ≤ xs.length * Row.sz Ses := Nat.mul_le_mul_right _ (by omega)
  have hs2 : xs.length * Row.sz Ses ≤ cap * Row.sz Ses := Nat.mul_le_mul_right _ hnc
  have hs3 : (i + (xs.length - j)) * Row.sz Ses ≤ xs.length * Row.sz Ses := Nat.mul_le_mul_right _ (by omega)
  have hs4 : (i + (xs.length - j)) * Row.sz Ses + (xs.length - (i + (xs.length - j))) * Row.sz Ses = xs.length * Row.sz Ses := by rw [← Nat.add_mul]; congr 1; omega
  have hdl : ((flat xs).drop (j * Row.sz Ses)).length = (xs.length - j) * Row.sz Ses := by rw [List.length_drop, hfl, ← Nat.sub_mul]
  have hs5 : i * Row.sz Ses + (xs.length - j) * Row.sz Ses = (i + (xs.length - j)) * Row.sz Ses := (Nat.add_mul _ _ _).symm
  refine calls_of_CW Try.func50 rfl Try.ntmps50 (Nat.le_of_ble_eq_true rfl) ?_
  simp only [argE, argFrom, Nat.reduceAdd]
  refine CW.seq (fun K1 h1 => ?_)
  refine CW.region ?_
  refine r_assign rfl ?_
  refine LW.nil ?_
  refine thenE_norm (h1 _ _ ?_); clear h1; try clear K1
  refine CW.seq (fun K2 h2 => ?_)
  refine CW.region ?_
  refine r_move rfl ?_
  refine r_move rfl ?_
  refine r_move rfl ?_
  refine r_move rfl ?_
  first
    | refine r_lenV rfl Try.underlying48 (by simp only [upd_get, ev, Nat.reduceEqDiff, ↓reduceIte] <;> rfl) (by first | assumption | exact SH.rsR H (by (repeat first | exact At.here | apply At.there); done) | exact SH.rsO H (by (repeat first | exact At.here | apply At.there); done) | exact Rs.toH (by first | assumption | exact SH.rsR H (by (repeat first | exact At.here | apply At.there); done) | exact SH.rsO H (by (repeat first | exact At.here | apply At.there); done)) (by omega) | exact Rs.toL (by first | assumption | exact SH.rsR H (by (repeat first | exact At.here | apply At.there); done) | exact SH.rsO H (by (repeat first | exact At.here | apply At.there); done)) (by omega) | exact Rs.toLH (by first | assumption | exact SH.rsR H (by (repeat first | exact At.here | apply At.there); done) | exact SH.rsO H (by (repeat first | exact At.here | apply At.there); done)) (by omega) (by omega) | exact (Rs.nil : Rs Non _ _ _)) ?_
    | refine r_len rfl Try.underlying48 rfl ?_
  refine r_sliceLHMc rfl Try.underlying48 Try.sizeOf52 rfl rfl rfl rfl (by omega) (by omega) (by omega) (by omega) ?_
  intro v1
  refine LW.nil ?_
  refine thenE_norm (h2 _ _ ?_); clear h2; try clear K2
  refine CW.seq (fun K3 h3 => ?_)
  refine CW.seq (fun K4 h4 => ?_)
  refine CW.region ?_
  refine r_move rfl ?_
  refine r_move rfl ?_
  refine r_eql rfl rfl rfl ?_
  refine LW.nil ?_
  refine thenE_norm ?_
  refine cut (K := K4) [0, 1, 2, 16] (fun σ => ?_)
  simp only [setL, keepE, upd_get, ev, Nat.reduceEqDiff, ↓reduceIte]
  refine h4 _ _ ?_; clear h4; try clear K4
  refine CW.condF rfl (by first | rfl | (simp only [decide_eq_true_eq, decide_eq_false_iff_not, Bool.and_eq_true, Bool.or_eq_true, Bool.and_eq_false_iff, Bool.or_eq_false_iff, Bool.not_eq_true', Bool.not_eq_false', beq_iff_eq, bne_iff_ne]; omega) | simp_all) ?_
  refine CW.skip ?_
  refine thenE_norm (h3 _ _ ?_); clear h3; try clear K3
  refine CW.seq (fun K5 h5 => ?_)
  refine CW.region ?_
  refine r_move rfl ?_
  first
    | refine r_lenV rfl Try.underlying48 (by simp only [upd_get, ev, Nat.reduceEqDiff, ↓reduceIte] <;> rfl) (by first | assumption | exact SH.rsR H (by (repeat first | exact At.here | apply At.there); done) | exact SH.rsO H (by (repeat first | exact At.here | apply At.there); done) | exact Rs.toH (by first | assumption | exact SH.rsR H (by (repeat first | exact At.here | apply At.there); done) | exact SH.rsO H (by (repeat first | exact At.here | apply At.there); done)) (by omega) | exact Rs.toL (by first | assumption | exact SH.rsR H (by (repeat first | exact At.here | apply At.there); done) | exact SH.rsO H (by (repeat first | exact At.here | apply At.there); done)) (by omega) | exact Rs.toLH (by first | assumption | exact SH.rsR H (by (repeat first | exact At.here | apply At.there); done) | exact SH.rsO H (by (repeat first | exact At.here | apply At.there); done)) (by omega) (by omega) | exact (Rs.nil : Rs Non _ _ _)) ?_
    | refine r_len rfl Try.underlying48 rfl ?_
  refine r_assign rfl ?_
  refine LW.nil ?_
  refine thenE_norm (h5 _ _ ?_); clear h5; try clear K5
  refine CW.seq (fun K6 h6 => ?_)
  refine CW.drawP [] [] H (by dsimp only [pickC, nthC] <;> rfl) (by repeat first | exact List.Sublist.refl _ | exact List.nil_sublist _ | apply List.Sublist.cons_cons | apply List.Sublist.cons) (by kernel_rfl) rfl ?_
  clear H
  intro w5d H
  refine DL.take (i := 0) [] rfl (by kernel_rfl) (by kernel_rfl) (by kernel_rfl) (by kernel_rfl) rfl rfl (fun u H => x_move ) (SH.sub H (by repeat first | exact List.Sublist.refl _ | exact List.nil_sublist _ | apply List.Sublist.cons_cons | apply List.Sublist.cons)) ?_
  refine DL.take (i := 1) [] rfl (by kernel_rfl) (by kernel_rfl) (by kernel_rfl) (by kernel_rfl) rfl rfl (fun u H => x_move ) (SH.sub H (by repeat first | exact List.Sublist.refl _ | exact List.nil_sublist _ | apply List.Sublist.cons_cons | apply List.Sublist.cons)) ?_
  refine DL.take (i := 2) [] rfl (by kernel_rfl) (by kernel_rfl) (by kernel_rfl) (by kernel_rfl) rfl rfl (fun u H => x_sliceHc Try.underlying48 Try.sizeOf52 rfl rfl (by omega) (by omega)) (SH.sub H (by repeat first | exact List.Sublist.refl _ | exact List.nil_sublist _ | apply List.Sublist.cons_cons | apply List.Sublist.cons)) ?_
  refine DL.take (i := 3) [] rfl (by kernel_rfl) (by kernel_rfl) (by kernel_rfl) (by kernel_rfl) rfl rfl (fun u H => x_move ) (SH.sub H (by repeat first | exact List.Sublist.refl _ | exact List.nil_sublist _ | apply List.Sublist.cons_cons | apply List.Sublist.cons)) ?_
  refine DL.take (i := 4) [] rfl (by kernel_rfl) (by kernel_rfl) (by kernel_rfl) (by kernel_rfl) rfl rfl (fun u H => x_move ) (SH.sub H (by repeat first | exact List.Sublist.refl _ | exact List.nil_sublist _ | apply List.Sublist.cons_cons | apply List.Sublist.cons)) ?_
  refine DL.take (i := 5) [] rfl (by kernel_rfl) (by kernel_rfl) (by kernel_rfl) (by kernel_rfl) rfl rfl (fun u H => x_sliceLc Try.underlying48 Try.sizeOf52 rfl rfl (by omega) (by omega)) (SH.sub H (by repeat first | exact List.Sublist.refl _ | exact List.nil_sublist _ | apply List.Sublist.cons_cons | apply List.Sublist.cons)) ?_
  refine DL.one (i := 6) (by kernel_rfl) rfl rfl ?_
  refine s_appendB H rfl Try.underlying48 Try.underlying48 Try.type52 rfl rfl rfl (by (repeat first | exact At.here | apply At.there); done) (Blk.tail (H.blk At.here) hct hcl hnc hcm hone.flat hj) (by show ((i : Int)).toNat + _ ≤ cap; omega) hcm hcl ?_
  clear H
  intro w5 H
  try dsimp only [replC, List.append_nil, List.nil_append] at H
  have hcl5 : (spliceL cur (i * Row.sz Ses) ((flat xs).drop (j * Row.sz Ses))).length = cap * Row.sz Ses := by rw [splice_len (by rw [hdl, hcl]; omega), hcl]
  refine LW.nil (thenE_norm ⟨fun _ => (SH.sub H (by repeat first | exact List.Sublist.refl _ | exact List.nil_sublist _ | apply List.Sublist.cons_cons | apply List.Sublist.cons)), ?_⟩)
  refine DL.take (i := 7) [] rfl (by kernel_rfl) (by kernel_rfl) (by kernel_rfl) (by kernel_rfl) rfl rfl (fun u H => x_assign ) (SH.sub H (by repeat first | exact List.Sublist.refl _ | exact List.nil_sublist _ | apply List.Sublist.cons_cons | apply List.Sublist.cons)) ?_
  refine DL.done (by kernel_rfl) ?_
  refine thenE_norm ?_
  refine cut (K := K6) [0, 7] (fun σ => ?_)
  simp only [setL, keepE, upd_get, ev, Nat.reduceEqDiff, ↓reduceIte]
  refine h6 _ _ ?_; clear h6; try clear K6
  refine CW.seq (fun K7 h7 => ?_)
  refine CW.region ?_
  refine r_move rfl ?_
  refine r_move rfl ?_
  first
    | refine r_lenV rfl Try.underlying48 (by simp only [upd_get, ev, Nat.reduceEqDiff, ↓reduceIte] <;> rfl) (by first | assumption | exact SH.rsR H (by (repeat first | exact At.here | apply At.there); done) | exact SH.rsO H (by (repeat first | exact At.here | apply At.there); done) | exact Rs.toH (by first | assumption | exact SH.rsR H (by (repeat first | exact At.here | apply At.there); done) | exact SH.rsO H (by (repeat first | exact At.here | apply At.there); done)) (by omega) | exact Rs.toL (by first | assumption | exact SH.rsR H (by (repeat first | exact At.here | apply At.there); done) | exact SH.rsO H (by (repeat first | exact At.here | apply At.there); done)) (by omega) | exact Rs.toLH (by first | assumption | exact SH.rsR H (by (repeat first | exact At.here | apply At.there); done) | exact SH.rsO H (by (repeat first | exact At.here | apply At.there); done)) (by omega) (by omega) | exact (Rs.nil : Rs Non _ _ _)) ?_
    | refine r_len rfl Try.underlying48 rfl ?_
  refine r_move rfl ?_
  refine r_sliceLHp rfl Try.underlying48 Try.sizeOf52 rfl rfl rfl (by omega) (by omega) (by omega) (by omega) ?_
  refine s_clearB H Try.underlying48 Try.zeroValue52 rfl rfl rfl rfl (by omega) (by (repeat first | exact At.here | apply At.there); done) (by show (i + (xs.length - j)) * Row.sz Ses + (xs.length - (i + (xs.length - j))) * Row.sz Ses ≤ _; erw [hcl5]; omega) ?_
  clear H
  intro w6 zs hzs H
  try dsimp only [replC, List.append_nil, List.nil_append] at H
  refine LW.nil ?_
  refine thenE_norm (h7 _ _ ?_); clear h7; try clear K7
  refine CW.seq (fun K8 h8 => ?_)
  refine CW.region ?_
  refine r_move rfl ?_
  refine r_assign rfl ?_
  refine LW.nil ?_
  refine thenE_norm ?_
  refine cut (K := K8) [6] (fun σ => ?_)
  simp only [setL, keepE, upd_get, ev, Nat.reduceEqDiff, ↓reduceIte]
  refine h8 _ _ ?_; clear h8; try clear K8
  refine CW.ret (ret1 Try.results50 (by simp only [upd_get, ev, Nat.reduceEqDiff, ↓reduceIte]; rfl) ?_)
  have hout := SH.ofB (cap := cap) H At.here (xs.take i ++ xs.drop j) (i + (xs.length - j)) (by simp; omega) ((hone.take i).app (hone.drop j)) (by
    erw [splice_len (by erw [hcl5, hzs]; show (i + (xs.length - j)) * Row.sz Ses + (xs.length - (i + (xs.length - j))) * Row.sz Ses ≤ _; omega)]
    exact hcl5) (by omega) hcm (by
    refine (splice_front (by erw [hcl5]; omega)).trans ?_
    have h1 := splice_upto (cur := cur) (vs := (flat xs).drop (j * Row.sz Ses)) (o := i * Row.sz Ses) (by omega)
    rw [hdl, hs5] at h1
    refine h1.trans ?_
    rw [flat_app, flat_take, flat_drop, ← hct, List.take_take, Nat.min_eq_left hs1])
  exact ⟨_, rfl, hout⟩
/-- By rising clients. -/
def UpS (l : List Ses) : Prop := ∀ (i j : Nat) (x y : Ses), i < j → l[i]? = some x → l[j]? = some y → x.client < y.client
theorem cmpM_neg {a b : Int} : cmpM a b < 0 ↔ a < b := by unfold cmpM; split <;> (try split) <;> omega
theorem cmpM_zero {a b : Int} : cmpM a b = 0 ↔ a = b := by unfold cmpM; split <;> (try split) <;> omega
theorem UpS.rising {l : List Ses} (h : UpS l) (n : Int) : Rising (fun s : Ses => cmpM s.client n) l := fun i j x y hij hx hy hc => by
  rw [cmpM_neg] at hc ⊢
  rcases Nat.lt_or_ge i j with h2 | h2
  · have := h i j x y h2 hx hy; omega
  · have : i = j := by omega
    subst this
    rw [hx] at hy
    cases hy
    exact hc
def atS (l : List Ses) (n : Int) : Nat := lowB (fun s : Ses => cmpM s.client n) l
def inS (l : List Ses) (n : Int) : Bool := hitB (fun s : Ses => cmpM s.client n) l
theorem place_c {F : Nat → Prop} {v : Value} {l : List Ses} (n : Int) (w : World) (hv : Rs F w v l) (hn : l.length ≤ 1000000) (hup : UpS l) :
    Calls Try.prog 43 #[v, .int .i64 n] w fun e w' => e = .returned (.tuple #[.int .i64 (atS l n), .bool (inS l n)]) ∧ Ext0 w w' := by
  have H := (SH.start w).arg hv
  refine calls_of_CW Try.func43 rfl Try.ntmps43 (Nat.le_of_ble_eq_true rfl) ?_
  simp only [argE, argFrom, Nat.reduceAdd]
  refine CW.seq (fun K1 h1 => ?_)
  refine CW.region ?_
  refine r_assign rfl ?_
  refine r_assign rfl ?_
  refine LW.nil ?_
  refine thenE_norm (h1 _ _ ?_); clear h1; try clear K1
  refine CW.seq (fun K2 h2 => ?_)
  refine CW.region ?_
  refine r_move rfl ?_
  refine r_move rfl ?_
  refine r_call rfl Try.call52 (by simp only [List.map_cons, List.map_nil, List.map_toArray, List.toList_toArray, upd_get, ev, Nat.reduceEqDiff, ↓reduceIte] <;> rfl) (BsS_c (c := fun s : Ses => cmpM s.client n) _ (SH.rsR H (i := 0) rfl) ⟨_, [], [], rfl, Try.call53, fun x w => place1_c x n w⟩ hn (hup.rising n)) ?_
  rintro _ w1_2 ⟨rfl, X⟩
  refine ⟨_, rfl, ?_⟩
  replace H := SH.same H X
  clear X
  refine r_extract rfl (by simp only [upd_get, ev, Nat.reduceEqDiff, ↓reduceIte] <;> rfl) (by simp only [List.getElem?_toArray, List.getElem?_cons_zero, List.getElem?_cons_succ] <;> rfl) ?_
  refine r_extract rfl (by simp only [upd_get, ev, Nat.reduceEqDiff, ↓reduceIte] <;> rfl) (by simp only [List.getElem?_toArray, List.getElem?_cons_zero, List.getElem?_cons_succ] <;> rfl) ?_
  refine r_assign rfl ?_
  refine r_assign rfl ?_
  refine LW.nil ?_
  refine thenE_norm ?_
  refine cut (K := K2) [4, 5] (fun σ => ?_)
  simp only [setL, keepE, upd_get, ev, Nat.reduceEqDiff, ↓reduceIte]
  refine h2 _ _ ?_; clear h2; try clear K2
  refine CW.ret (ret2 Try.results43 (by simp only [upd_get, ev, Nat.reduceEqDiff, ↓reduceIte]; rfl) (by simp only [upd_get, ev, Nat.reduceEqDiff, ↓reduceIte]; rfl) ?_)
  exact ⟨rfl, H.ext⟩
def hasN (l : List Ses) (n : Int) : Bool := l.any fun s => decide (s.num = n)
theorem num1_c {b : Nat} {E : TypeId} (s : Ses) (n : Int) (w : World) (hb : Blk w b E [.int .i64 n]) :
    Calls Try.prog 56 #[agg s, .pointer (some ⟨b, 0, none⟩)] w fun u w' => u = .returned (.bool (decide (s.num = n))) ∧ Ext0 w w' := by
  have H := SH.start (U := Non) (G := Any) w
  refine calls_of_CW Try.func56 rfl Try.ntmps56 (Nat.le_of_ble_eq_true rfl) ?_
  simp only [argE, argFrom, Nat.reduceAdd]
  refine CW.seq (fun K1 h1 => ?_)
  refine CW.region ?_
  refine s_box H rfl (by simp only [upd_get, ev, Nat.reduceEqDiff, ↓reduceIte] <;> rfl) rfl ?_
  clear H
  intro b0_0 w0_0 H
  try dsimp only [replC, List.cons_append, List.nil_append, List.append_nil, agg, cellsL, Value.cells, List.toList_toArray, List.set_cons_zero, List.set_cons_succ, spliceL, List.take_succ_cons, List.take_zero, List.drop_succ_cons, List.drop_zero, List.length_cons, List.length_nil, Nat.reduceAdd, Row.cells, Ses.L] at H
  refine r_assign rfl ?_
  refine LW.nil ?_
  refine thenE_norm (h1 _ _ ?_); clear h1; try clear K1
  refine CW.seq (fun K2 h2 => ?_)
  refine CW.region ?_
  refine r_fieldAddrO rfl Try.underlying52 rfl Try.sizeOf3 (by decide) (show _ = 1 from rfl) rfl ?_
  refine r_load rfl Try.isAgg3 rfl (by first | exact SH.cellB H (by (repeat first | exact At.here | apply At.there); done) (by rfl) | exact SH.cellI H (by (repeat first | exact At.here | apply At.there); done) (by rfl) | exact Rs.cell (by first | assumption | exact SH.rsR H (by (repeat first | exact At.here | apply At.there); done) | exact SH.rsO H (by (repeat first | exact At.here | apply At.there); done) | exact Rs.toH (by first | assumption | exact SH.rsR H (by (repeat first | exact At.here | apply At.there); done) | exact SH.rsO H (by (repeat first | exact At.here | apply At.there); done)) (by omega) | exact Rs.toL (by first | assumption | exact SH.rsR H (by (repeat first | exact At.here | apply At.there); done) | exact SH.rsO H (by (repeat first | exact At.here | apply At.there); done)) (by omega) | exact Rs.toLH (by first | assumption | exact SH.rsR H (by (repeat first | exact At.here | apply At.there); done) | exact SH.rsO H (by (repeat first | exact At.here | apply At.there); done)) (by omega) (by omega) | exact (Rs.nil : Rs Non _ _ _)) (by assumption) (by rfl) | exact Rs.cell0 (by first | assumption | exact SH.rsR H (by (repeat first | exact At.here | apply At.there); done) | exact SH.rsO H (by (repeat first | exact At.here | apply At.there); done) | exact Rs.toH (by first | assumption | exact SH.rsR H (by (repeat first | exact At.here | apply At.there); done) | exact SH.rsO H (by (repeat first | exact At.here | apply At.there); done)) (by omega) | exact Rs.toL (by first | assumption | exact SH.rsR H (by (repeat first | exact At.here | apply At.there); done) | exact SH.rsO H (by (repeat first | exact At.here | apply At.there); done)) (by omega) | exact Rs.toLH (by first | assumption | exact SH.rsR H (by (repeat first | exact At.here | apply At.there); done) | exact SH.rsO H (by (repeat first | exact At.here | apply At.there); done)) (by omega) (by omega) | exact (Rs.nil : Rs Non _ _ _)) (by assumption) (by rfl) | assumption) ?_
  refine r_load rfl Try.isAgg3 rfl ((hb.up0 (SH.ext H)).cell (o := 0) rfl) ?_
  refine r_eql rfl rfl rfl ?_
  refine r_assign rfl ?_
  refine LW.nil ?_
  refine thenE_norm (h2 _ _ ?_); clear h2; try clear K2
  refine CW.ret (ret1 Try.results56 (by simp only [upd_get, ev, Nat.reduceEqDiff, ↓reduceIte]; rfl) ?_)
  exact ⟨rfl, H.ext⟩
theorem find_any {α : Type} (p : α → Bool) (xs : List α) : decide (0 ≤ findM p xs) = xs.any p := by
  unfold findM
  by_cases h : xs.any p = true
  · rw [if_pos h, h]; simp
  · rw [if_neg h]; simp [h]
theorem CfS_c {F : Nat → Prop} {v fv : Value} {xs : List Ses} {S : World → Prop} {p : Ses → Bool} {D : Ses → Prop} (w : World) (hv : Rs F w v xs) (hp : PredF Try.prog S fv agg p D) (hD : ∀ x ∈ xs, D x) (hS : ∀ w', Ext0 w w' → S w') :
    Calls Try.prog 55 #[v, fv] w fun e w' => e = .returned (.bool (xs.any p)) ∧ Ext0 w w' := by
  have H := (SH.start w).arg hv
  refine calls_of_CW Try.func55 rfl Try.ntmps55 (Nat.le_of_ble_eq_true rfl) ?_
  simp only [argE, argFrom, Nat.reduceAdd]
  refine CW.seq (fun K1 h1 => ?_)
  refine CW.region ?_
  refine r_assign rfl ?_
  refine LW.nil ?_
  refine thenE_norm (h1 _ _ ?_); clear h1; try clear K1
  refine CW.seq (fun K2 h2 => ?_)
  refine CW.region ?_
  refine r_move rfl ?_
  refine r_move rfl ?_
  refine r_call rfl Try.call60 (by simp only [List.map_cons, List.map_nil, List.map_toArray, List.toList_toArray, upd_get, ev, Nat.reduceEqDiff, ↓reduceIte] <;> rfl) (IxfS_c _ (SH.rsR H (i := 0) rfl) hp hD (fun w' e => hS w' (Ext0.trans H.ext e))) ?_
  rintro _ w1_2 ⟨rfl, X⟩
  refine ⟨_, rfl, ?_⟩
  replace H := SH.same H X
  clear X
  refine r_geq rfl rfl rfl ?_
  refine r_assign rfl ?_
  refine LW.nil ?_
  refine thenE_norm (h2 _ _ ?_); clear h2; try clear K2
  refine CW.ret (ret1 Try.results55 (by simp only [upd_get, ev, Nat.reduceEqDiff, ↓reduceIte]; rfl) ?_)
  rw [← find_any]
  exact ⟨rfl, H.ext⟩
theorem numbered_c {F : Nat → Prop} {v : Value} {l : List Ses} (n : Int) (w : World) (hv : Rs F w v l) :
    Calls Try.prog 46 #[v, .int .i64 n] w fun e w' => e = .returned (.bool (hasN l n)) ∧ Ext0 w w' := by
  have H := (SH.start w).arg hv
  refine calls_of_CW Try.func46 rfl Try.ntmps46 (Nat.le_of_ble_eq_true rfl) ?_
  simp only [argE, argFrom, Nat.reduceAdd]
  refine CW.seq (fun K1 h1 => ?_)
  refine CW.region ?_
  refine s_box H rfl (by simp only [upd_get, ev, Nat.reduceEqDiff, ↓reduceIte] <;> rfl) rfl ?_
  clear H
  intro b0_0 w0_0 H
  try dsimp only [replC, List.cons_append, List.nil_append, List.append_nil, agg, cellsL, Value.cells, List.toList_toArray, List.set_cons_zero, List.set_cons_succ, spliceL, List.take_succ_cons, List.take_zero, List.drop_succ_cons, List.drop_zero, List.length_cons, List.length_nil, Nat.reduceAdd, Row.cells, Ses.L] at H
  refine r_assign rfl ?_
  refine LW.nil ?_
  refine thenE_norm (h1 _ _ ?_); clear h1; try clear K1
  refine CW.seq (fun K2 h2 => ?_)
  refine CW.region ?_
  refine r_move rfl ?_
  refine r_makeFunc rfl (by simp only [List.map_cons, List.map_nil, List.map_toArray, List.toList_toArray, upd_get, ev, Nat.reduceEqDiff, ↓reduceIte] <;> rfl) (by simp only [List.map_cons, List.map_nil, List.map_toArray, List.toList_toArray, upd_get, ev, Nat.reduceEqDiff, ↓reduceIte] <;> rfl) ?_
  refine r_call rfl Try.call55 (by simp only [List.map_cons, List.map_nil, List.map_toArray, List.toList_toArray, upd_get, ev, Nat.reduceEqDiff, ↓reduceIte] <;> rfl) (CfS_c (S := fun u => Blk u b0_0 3 [.int .i64 n]) (p := fun s => decide (s.num = n)) (D := fun _ => True) _ (SH.rsR H (i := 0) rfl) ⟨_, [], [.pointer (some ⟨b0_0, 0, none⟩)], rfl, Try.call56, fun x u _ hs => num1_c x n u hs⟩ (fun _ _ => trivial) (fun w' e => (H.blk (i := 1) rfl).up0 e)) ?_
  rintro _ w1_2 ⟨rfl, X⟩
  refine ⟨_, rfl, ?_⟩
  replace H := SH.same H X
  clear X
  refine r_assign rfl ?_
  refine LW.nil ?_
  refine thenE_norm (h2 _ _ ?_); clear h2; try clear K2
  refine CW.ret (ret1 Try.results46 (by simp only [upd_get, ev, Nat.reduceEqDiff, ↓reduceIte]; rfl) ?_)
  exact ⟨rfl, H.ext⟩
end Go.Proofs.Ytcmnhneigojpoaa
