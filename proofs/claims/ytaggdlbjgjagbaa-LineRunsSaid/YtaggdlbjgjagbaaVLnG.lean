/-
  The walks of layer 7's laws, the third part.
-/
import Derived.Test.YtaggdlbjgjagbaaVLnF
namespace Go.Proofs.Ytaggdlbjgjagbaa
set_option linter.unusedSimpArgs false
set_option linter.unusedVariables false
open Go.V Go.RowKit

theorem lineOk_app {xs : List Int} {c : Int} (h : lineOk xs) (hc : clientM c = true) (hn : c ∉ xs) : lineOk (xs ++ [c]) := by
  refine ⟨fun d hd => ?_, ?_⟩
  · rcases List.mem_append.1 hd with hd | hd
    · exact h.1 d hd
    · rw [List.mem_singleton] at hd; subst hd; exact hc
  · rw [List.nodup_append]
    exact ⟨h.2, by simp, fun a ha b hb => by rw [List.mem_singleton] at hb; subst hb; rintro rfl; exact hn ha⟩
theorem Line_c {F : Nat → Prop} {v : Value} {ns : List UInt8} (w : World) (hv : Rs F w v ns) :
    Calls Try.prog 22 #[v] w fun e w' => ∃ v' xs g, e = .returned v' ∧ lineOk xs ∧ xs.length ≤ 3 ∧ SH Non Non w w' [.O 3 v' xs g] := by
  have H := (SH.start w).arg hv
  have h63 := hv.len63
  refine calls_of_CW Try.func22 rfl Try.ntmps22 (Nat.le_of_ble_eq_true rfl) ?_
  simp only [argE, argFrom, Nat.reduceAdd]
  refine CW.seq (fun K1 h1 => ?_)
  refine CW.region ?_
  refine r_assign rfl ?_
  refine LW.nil ?_
  refine thenE_norm (h1 _ _ ?_); clear h1; try clear K1
  refine CW.seq (fun K2 h2 => ?_)
  refine CW.region ?_
  refine r_assign rfl ?_
  refine LW.nil ?_
  refine thenE_norm (h2 _ _ ?_); clear h2; try clear K2
  refine CW.seq (fun K3 h3 => ?_)
  refine CW.seq (fun K4 h4 => ?_)
  refine CW.region ?_
  refine r_assign rfl ?_
  refine LW.nil ?_
  refine thenE_norm (h4 _ _ ?_); clear h4; try clear K4
  refine CW.block ?_
  refine CW.loopR [0] [3, 4] (fun m vs w' => ∃ (i : Nat) (u : Value) (g : Option Nat) (xs : List Int), vs = [u, .int .i64 i] ∧ i ≤ ns.length ∧ m = ns.length - i ∧ lineOk xs ∧ xs.length ≤ 3 ∧ SH Non Any w w' [.R (Old w) v ns, .O 3 u xs g]) (ns.length) ?_ ?_
  · exact ⟨0, .slice none 0 0, none, [], rfl, by omega, by omega, by simp [lineOk], by simp, H.addO (α := Int) 3⟩
  try clear H
  rintro n1 vs1 wL1 σ ⟨i, u, g, xs, rfl, hi, rfl, hok, hx3, H⟩
  simp only [setL, keepE, upd_get, ev, Nat.reduceEqDiff, ↓reduceIte]
  refine CW.seq (fun K5 h5 => ?_)
  refine CW.seq (fun K6 h6 => ?_)
  refine CW.region ?_
  refine r_move rfl ?_
  refine r_move rfl ?_
  first
    | refine r_lenV rfl Try.underlying31 (by simp only [upd_get, ev, Nat.reduceEqDiff, ↓reduceIte] <;> rfl) (by first | assumption | exact SH.rsR H (by repeat first | exact At.here | apply At.there) | exact SH.rsO H (by repeat first | exact At.here | apply At.there) | exact Rs.toH (by first | assumption | exact SH.rsR H (by repeat first | exact At.here | apply At.there) | exact SH.rsO H (by repeat first | exact At.here | apply At.there)) (by omega) | exact Rs.toL (by first | assumption | exact SH.rsR H (by repeat first | exact At.here | apply At.there) | exact SH.rsO H (by repeat first | exact At.here | apply At.there)) (by omega) | exact Rs.toLH (by first | assumption | exact SH.rsR H (by repeat first | exact At.here | apply At.there) | exact SH.rsO H (by repeat first | exact At.here | apply At.there)) (by omega) (by omega)) ?_
    | refine r_len rfl Try.underlying31 rfl ?_
  refine r_lss rfl rfl rfl ?_
  refine r_move rfl ?_
  refine' LW.grpAnd (n := 4) (ts := [0, 3, 4]) (d := 14) (tj := 10) rfl (fun hg3_5 => ?_) (fun hg3_5 => ?_) (fun σ => ?_)
  rotate_left
  · simp only [List.take_succ_cons, List.take_zero]
    have hg3_5P := hg3_5
    try simp only [decide_eq_true_eq, decide_eq_false_iff_not, Bool.and_eq_true, Bool.or_eq_true, Bool.and_eq_false_iff, Bool.or_eq_false_iff, Bool.not_eq_true', Bool.not_eq_false', beq_iff_eq, bne_iff_ne] at hg3_5P
    refine LW.want rfl rfl hg3_5 ?_
    refine r_move rfl ?_
    refine LW.want rfl rfl hg3_5 ?_
    first
      | refine r_lenV rfl Try.underlying22 (by simp only [upd_get, ev, Nat.reduceEqDiff, ↓reduceIte] <;> rfl) (by first | assumption | exact SH.rsR H (by repeat first | exact At.here | apply At.there) | exact SH.rsO H (by repeat first | exact At.here | apply At.there) | exact Rs.toH (by first | assumption | exact SH.rsR H (by repeat first | exact At.here | apply At.there) | exact SH.rsO H (by repeat first | exact At.here | apply At.there)) (by omega) | exact Rs.toL (by first | assumption | exact SH.rsR H (by repeat first | exact At.here | apply At.there) | exact SH.rsO H (by repeat first | exact At.here | apply At.there)) (by omega) | exact Rs.toLH (by first | assumption | exact SH.rsR H (by repeat first | exact At.here | apply At.there) | exact SH.rsO H (by repeat first | exact At.here | apply At.there)) (by omega) (by omega)) ?_
      | refine r_len rfl Try.underlying22 rfl ?_
    refine LW.want rfl rfl hg3_5 ?_
    refine r_lss rfl rfl rfl ?_
    refine r_pickT rfl rfl hg3_5 ?_
    refine LW.nil (thenE_norm ⟨rfl, rfl, rfl⟩)
  · simp only [List.take_succ_cons, List.take_zero]
    refine LW.skip rfl (fun _ e => by cases e; decide) rfl hg3_5 ?_
    refine LW.skip rfl (fun _ e => by cases e; decide) rfl hg3_5 ?_
    refine LW.skip rfl (fun _ e => by cases e; decide) rfl hg3_5 ?_
    refine r_pickF rfl rfl hg3_5 ?_
    refine LW.nil (thenE_norm ⟨rfl, rfl, rfl⟩)
  simp only [setL, keepE, upd_get, ev, Nat.reduceEqDiff, ↓reduceIte]; simp only [List.drop_succ_cons, List.drop_zero]
  refine LW.nil ?_
  refine thenE_norm (h6 _ _ ?_); clear h6; try clear K6
  refine CW.cond rfl (fun hc1 => ?_) (fun hc1 => ?_)
  · try simp only [decide_eq_true_eq, decide_eq_false_iff_not, Bool.and_eq_true, Bool.or_eq_true, Bool.and_eq_false_iff, Bool.or_eq_false_iff, Bool.not_eq_true', Bool.not_eq_false', beq_iff_eq, bne_iff_ne, ne_eq, Decidable.not_not] at hc1
    have hc1i : i < ns.length := by omega
    refine CW.skip ?_
    refine thenE_norm (h5 _ _ ?_); clear h5; try clear K5
    refine CW.seq (fun K7 h7 => ?_)
    refine CW.block ?_
    refine CW.seq (fun K8 h8 => ?_)
    obtain ⟨x, hx⟩ := get_of_lt (show i < ns.length by omega)
    have hx8 := x.toNat_lt
    refine CW.region ?_
    refine r_move rfl ?_
    refine r_move rfl ?_
    refine r_indexAddrV rfl Try.underlying31 (by simp only [upd_get, ev, Nat.reduceEqDiff, ↓reduceIte] <;> rfl) rfl (by first | assumption | exact SH.rsR H (by repeat first | exact At.here | apply At.there) | exact SH.rsO H (by repeat first | exact At.here | apply At.there) | exact Rs.toH (by first | assumption | exact SH.rsR H (by repeat first | exact At.here | apply At.there) | exact SH.rsO H (by repeat first | exact At.here | apply At.there)) (by omega) | exact Rs.toL (by first | assumption | exact SH.rsR H (by repeat first | exact At.here | apply At.there) | exact SH.rsO H (by repeat first | exact At.here | apply At.there)) (by omega) | exact Rs.toLH (by first | assumption | exact SH.rsR H (by repeat first | exact At.here | apply At.there) | exact SH.rsO H (by repeat first | exact At.here | apply At.there)) (by omega) (by omega)) (by exact Try.sizeOf5) (by omega) (by omega) ?_
    refine r_load rfl Try.isAgg5 rfl (by first | exact SH.cellB H (by repeat first | exact At.here | apply At.there) (by rfl) | exact Rs.cell (by first | assumption | exact SH.rsR H (by repeat first | exact At.here | apply At.there) | exact SH.rsO H (by repeat first | exact At.here | apply At.there) | exact Rs.toH (by first | assumption | exact SH.rsR H (by repeat first | exact At.here | apply At.there) | exact SH.rsO H (by repeat first | exact At.here | apply At.there)) (by omega) | exact Rs.toL (by first | assumption | exact SH.rsR H (by repeat first | exact At.here | apply At.there) | exact SH.rsO H (by repeat first | exact At.here | apply At.there)) (by omega) | exact Rs.toLH (by first | assumption | exact SH.rsR H (by repeat first | exact At.here | apply At.there) | exact SH.rsO H (by repeat first | exact At.here | apply At.there)) (by omega) (by omega)) (by assumption) (by rfl) | exact Rs.cell0 (by first | assumption | exact SH.rsR H (by repeat first | exact At.here | apply At.there) | exact SH.rsO H (by repeat first | exact At.here | apply At.there) | exact Rs.toH (by first | assumption | exact SH.rsR H (by repeat first | exact At.here | apply At.there) | exact SH.rsO H (by repeat first | exact At.here | apply At.there)) (by omega) | exact Rs.toL (by first | assumption | exact SH.rsR H (by repeat first | exact At.here | apply At.there) | exact SH.rsO H (by repeat first | exact At.here | apply At.there)) (by omega) | exact Rs.toLH (by first | assumption | exact SH.rsR H (by repeat first | exact At.here | apply At.there) | exact SH.rsO H (by repeat first | exact At.here | apply At.there)) (by omega) (by omega)) (by assumption) (by rfl) | assumption) ?_
    refine r_convI rfl Try.underlying5 Try.underlying3 rfl (wr_i64 (by omega) (by omega)) ?_
    refine r_rem rfl rfl rfl (by omega) (by omega) (wr_i64 (by omega) (by omega)) ?_
    refine r_assign rfl ?_
    refine LW.nil ?_
    refine thenE_norm (h8 _ _ ?_); clear h8; try clear K8
    refine CW.seq (fun K9 h9 => ?_)
    refine CW.region ?_
    refine r_move rfl ?_
    refine r_move rfl ?_
    refine r_call rfl Try.call19 (by simp only [List.map_cons, List.map_nil, List.map_toArray, List.toList_toArray, upd_get, ev, Nat.reduceEqDiff, ↓reduceIte] <;> rfl) (In_c _ _ (by first | assumption | exact SH.rsR H (by repeat first | exact At.here | apply At.there) | exact SH.rsO H (by repeat first | exact At.here | apply At.there) | exact Rs.toH (by first | assumption | exact SH.rsR H (by repeat first | exact At.here | apply At.there) | exact SH.rsO H (by repeat first | exact At.here | apply At.there)) (by omega) | exact Rs.toL (by first | assumption | exact SH.rsR H (by repeat first | exact At.here | apply At.there) | exact SH.rsO H (by repeat first | exact At.here | apply At.there)) (by omega) | exact Rs.toLH (by first | assumption | exact SH.rsR H (by repeat first | exact At.here | apply At.there) | exact SH.rsO H (by repeat first | exact At.here | apply At.there)) (by omega) (by omega))) ?_
    rintro _ _ ⟨rfl, rfl⟩
    refine ⟨_, rfl, ?_⟩
    refine r_not rfl rfl ?_
    refine LW.nil ?_
    refine thenE_norm ?_
    refine cut (K := K9) [0, 3, 4, 5, 26] (fun σ => ?_)
    simp only [setL, keepE, upd_get, ev, Nat.reduceEqDiff, ↓reduceIte]
    refine h9 _ _ ?_; clear h9; try clear K9
    refine CW.cond rfl (fun hc2 => ?_) (fun hc2 => ?_)
    · try simp only [decide_eq_true_eq, decide_eq_false_iff_not, Bool.and_eq_true, Bool.or_eq_true, Bool.and_eq_false_iff, Bool.or_eq_false_iff, Bool.not_eq_true', Bool.not_eq_false', beq_iff_eq, bne_iff_ne, ne_eq, Decidable.not_not] at hc2
      refine CW.region ?_
      refine r_move rfl ?_
      refine r_move rfl ?_
      refine r_buildSlice rfl Try.underlying22 Try.sizeOf3 Try.zeroValue3 rfl rfl rfl (by simp only [List.map_cons, List.map_nil, List.toList_toArray, List.foldl_cons, List.foldl_nil, List.replicate_succ, List.replicate_zero, List.set_cons_zero, List.set_cons_succ, upd_get, ev, Nat.reduceEqDiff, ↓reduceIte] <;> rfl) ?_
      intro b7_2 w7_2 hb7_2 hs7_2 hE7_2 hB7_2
      replace H := SH.call H (SH.fromB hE7_2 hb7_2 hs7_2 hB7_2)
      clear hb7_2 hs7_2 hE7_2 hB7_2
      try dsimp only [replC, List.cons_append, List.nil_append, List.append_nil, Value.cells, List.set_cons_zero, List.set_cons_succ] at H
      replace H := SH.row (xs := ([_] : List Int)) (n := 1) (cap := 1) H (by repeat first | exact At.here | apply At.there) (by rfl) (by intro x hx; first | rfl | (simp at hx; done) | (simp only [List.mem_cons, List.not_mem_nil, or_false] at hx; rcases hx with rfl | rfl | rfl | rfl <;> rfl)) (by rfl) rfl (by decide)
      try dsimp only [replC, List.cons_append, List.nil_append, List.append_nil, Value.cells, List.set_cons_zero, List.set_cons_succ] at H
      first
        | refine s_append H rfl Try.underlying22 Try.underlying22 Try.type3 rfl (by simp only [upd_get, ev, Nat.reduceEqDiff, ↓reduceIte] <;> rfl) (by simp only [upd_get, ev, Nat.reduceEqDiff, ↓reduceIte] <;> rfl) (by repeat first | exact At.here | apply At.there) (by first | assumption | exact SH.rsR H (by repeat first | exact At.here | apply At.there) | exact SH.rsO H (by repeat first | exact At.here | apply At.there) | exact Rs.toH (by first | assumption | exact SH.rsR H (by repeat first | exact At.here | apply At.there) | exact SH.rsO H (by repeat first | exact At.here | apply At.there)) (by omega) | exact Rs.toL (by first | assumption | exact SH.rsR H (by repeat first | exact At.here | apply At.there) | exact SH.rsO H (by repeat first | exact At.here | apply At.there)) (by omega) | exact Rs.toLH (by first | assumption | exact SH.rsR H (by repeat first | exact At.here | apply At.there) | exact SH.rsO H (by repeat first | exact At.here | apply At.there)) (by omega) (by omega)) (by rfl) (by rfl) (by first | omega | (simp only [Try.t3, List.length_append, List.length_cons, List.length_nil, List.length_map, maxLen]; omega) | (simp [Try.t3, maxLen]; omega)) (by first | omega | (simp only [Try.t3, List.length_append, List.length_cons, List.length_nil, List.length_map, maxLen]; omega) | (simp [Try.t3, maxLen]; omega)) ?_
        | refine s_appendNil H rfl Try.underlying22 Try.underlying22 Try.type3 rfl rfl (by simp only [upd_get, ev, Nat.reduceEqDiff, ↓reduceIte] <;> rfl) (by first | assumption | exact SH.rsR H (by repeat first | exact At.here | apply At.there) | exact SH.rsO H (by repeat first | exact At.here | apply At.there) | exact Rs.toH (by first | assumption | exact SH.rsR H (by repeat first | exact At.here | apply At.there) | exact SH.rsO H (by repeat first | exact At.here | apply At.there)) (by omega) | exact Rs.toL (by first | assumption | exact SH.rsR H (by repeat first | exact At.here | apply At.there) | exact SH.rsO H (by repeat first | exact At.here | apply At.there)) (by omega) | exact Rs.toLH (by first | assumption | exact SH.rsR H (by repeat first | exact At.here | apply At.there) | exact SH.rsO H (by repeat first | exact At.here | apply At.there)) (by omega) (by omega)) (by rfl) (by rfl) (by first | omega | (simp only [Try.t3, List.length_append, List.length_cons, List.length_nil, List.length_map, maxLen]; omega) | (simp [Try.t3, maxLen]; omega)) ?_
      clear H
      intro v7_3 w7_3 g7_3 H hN7_3
      try dsimp only [replC, List.cons_append, List.nil_append, List.append_nil, Value.cells, List.set_cons_zero, List.set_cons_succ] at H
      refine r_assign rfl ?_
      refine LW.nil ?_
      refine blockE_norm ?_
      refine thenE_norm (h7 _ _ ?_); clear h7; try clear K7
      refine CW.region ?_
      refine r_move rfl ?_
      refine r_add rfl rfl rfl (wr_i64 (by omega) (by omega)) ?_
      refine r_assign rfl ?_
      refine LW.nil ?_
      refine thenE_norm ⟨rfl, ?_⟩
      first
        | exact ⟨_, by omega, i + 1, _, _, _, rfl, by omega, rfl, lineOk_app hok (clientM_mod _) hc2, by simp; omega, (SH.sel H [0, 1] (by decide) (by rfl))⟩
        | exact ⟨_, by omega, i + 1, _, _, _, rfl, by omega, rfl, hok, hx3, (SH.sel H [0, 1] (by decide) (by rfl))⟩
    · try simp only [decide_eq_true_eq, decide_eq_false_iff_not, Bool.and_eq_true, Bool.or_eq_true, Bool.and_eq_false_iff, Bool.or_eq_false_iff, Bool.not_eq_true', Bool.not_eq_false', beq_iff_eq, bne_iff_ne, ne_eq, Decidable.not_not] at hc2
      refine CW.skip ?_
      refine blockE_norm ?_
      refine thenE_norm (h7 _ _ ?_); clear h7; try clear K7
      refine CW.region ?_
      refine r_move rfl ?_
      refine r_add rfl rfl rfl (wr_i64 (by omega) (by omega)) ?_
      refine r_assign rfl ?_
      refine LW.nil ?_
      refine thenE_norm ⟨rfl, ?_⟩
      first
        | exact ⟨_, by omega, i + 1, _, _, _, rfl, by omega, rfl, lineOk_app hok (clientM_mod _) hc2, by simp; omega, (SH.sel H [0, 1] (by decide) (by rfl))⟩
        | exact ⟨_, by omega, i + 1, _, _, _, rfl, by omega, rfl, hok, hx3, (SH.sel H [0, 1] (by decide) (by rfl))⟩
  · try simp only [decide_eq_true_eq, decide_eq_false_iff_not, Bool.and_eq_true, Bool.or_eq_true, Bool.and_eq_false_iff, Bool.or_eq_false_iff, Bool.not_eq_true', Bool.not_eq_false', beq_iff_eq, bne_iff_ne, ne_eq, Decidable.not_not] at hc1
    refine CW.exit (thenE_exit (thenE_exit (blockE_hit ?_)))
    refine thenE_norm (h3 _ _ ?_); clear h3; try clear K3
    refine CW.seq (fun K10 h10 => ?_)
    refine CW.region ?_
    refine r_move rfl ?_
    refine r_assign rfl ?_
    refine LW.nil ?_
    refine thenE_norm (h10 _ _ ?_); clear h10; try clear K10
    refine CW.ret (ret1 Try.results22 (by simp only [upd_get, ev, Nat.reduceEqDiff, ↓reduceIte]; rfl) ?_)
    exact ⟨_, _, _, rfl, hok, hx3, (SH.give (SH.sel H [1] (by decide) rfl) (List.Sublist.refl _) (by repeat first | exact trivial | refine ⟨trivial, ?_⟩))⟩

theorem filt_at {xs : List Int} {p : Int → Bool} {i : Nat} {x : Int} (hx : xs[i]? = some x) (hp : p x = true) : (xs.filter p)[((xs.take i).filter p).length]? = some x := by
  have hl := lt_of_get hx
  have h1 : xs[i] = x := by rw [List.getElem?_eq_getElem hl] at hx; cases hx; rfl
  have e : xs.filter p = (xs.take i).filter p ++ x :: (xs.drop (i + 1)).filter p := by
    conv => lhs; rw [← List.take_append_drop i xs, List.filter_append, List.drop_eq_getElem_cons hl, h1, List.filter_cons, if_pos hp]
  rw [e, List.getElem?_append_right (Nat.le_refl _), Nat.sub_self]; rfl

set_option maxHeartbeats 4000000 in
theorem LineLeaves_c {F G : Nat → Prop} {v gv : Value} {ns gs : List UInt8} (cl : Int) (w : World) (hv : Rs F w v ns) (hg : Rs G w gv gs) (hf : 0 ≤ cl) (hf2 : cl < 256) :
    Calls Try.prog 6 #[v, .int .u8 cl, gv] w fun e w' => e = .returned (.bool true) ∧ Ext0 w w' := by
  have H := ((SH.start w).arg hv).arg hg
  have h63 := hg.len63
  refine calls_of_CW Try.func6 rfl Try.ntmps6 (Nat.le_of_ble_eq_true rfl) ?_
  simp only [argE, argFrom, Nat.reduceAdd]
  refine CW.seq (fun K1 h1 => ?_)
  refine CW.region ?_
  refine r_assign rfl ?_
  refine LW.nil ?_
  refine thenE_norm (h1 _ _ ?_); clear h1; try clear K1
  refine CW.seq (fun K2 h2 => ?_)
  refine CW.region ?_
  refine r_move rfl ?_
  refine r_call rfl Try.call22 (by simp only [List.map_cons, List.map_nil, List.map_toArray, List.toList_toArray, upd_get, ev, Nat.reduceEqDiff, ↓reduceIte] <;> rfl) (Line_c _ (by first | assumption | exact SH.rsR H (by repeat first | exact At.here | apply At.there) | exact SH.rsO H (by repeat first | exact At.here | apply At.there) | exact Rs.toH (by first | assumption | exact SH.rsR H (by repeat first | exact At.here | apply At.there) | exact SH.rsO H (by repeat first | exact At.here | apply At.there)) (by omega) | exact Rs.toL (by first | assumption | exact SH.rsR H (by repeat first | exact At.here | apply At.there) | exact SH.rsO H (by repeat first | exact At.here | apply At.there)) (by omega) | exact Rs.toLH (by first | assumption | exact SH.rsR H (by repeat first | exact At.here | apply At.there) | exact SH.rsO H (by repeat first | exact At.here | apply At.there)) (by omega) (by omega))) ?_
  rintro _ w1_1 ⟨v1_1, xs, g1_1, rfl, hok, hx3, K⟩
  refine ⟨_, rfl, ?_⟩
  replace H := SH.call H K
  clear K
  try dsimp only [replC, List.cons_append, List.nil_append, List.append_nil, Value.cells, List.set_cons_zero, List.set_cons_succ] at H
  refine r_assign rfl ?_
  refine LW.nil ?_
  refine thenE_norm (h2 _ _ ?_); clear h2; try clear K2
  refine CW.seq (fun K3 h3 => ?_)
  refine CW.region ?_
  refine r_buildSlice rfl Try.underlying22 Try.sizeOf3 Try.zeroValue3 rfl rfl rfl (by simp only [List.map_cons, List.map_nil, List.toList_toArray, List.foldl_cons, List.foldl_nil, List.replicate_succ, List.replicate_zero, List.set_cons_zero, List.set_cons_succ, upd_get, ev, Nat.reduceEqDiff, ↓reduceIte] <;> rfl) ?_
  intro b2_0 w2_0 hb2_0 hs2_0 hE2_0 hB2_0
  replace H := SH.call H (SH.fromB hE2_0 hb2_0 hs2_0 hB2_0)
  clear hb2_0 hs2_0 hE2_0 hB2_0
  try dsimp only [replC, List.cons_append, List.nil_append, List.append_nil, Value.cells, List.set_cons_zero, List.set_cons_succ] at H
  replace H := SH.row (xs := ([] : List Int)) (n := 0) (cap := 0) H (by repeat first | exact At.here | apply At.there) (by rfl) (by intro x hx; first | rfl | (simp at hx; done) | (simp only [List.mem_cons, List.not_mem_nil, or_false] at hx; rcases hx with rfl | rfl | rfl | rfl <;> rfl)) (by rfl) rfl (by decide)
  try dsimp only [replC, List.cons_append, List.nil_append, List.append_nil, Value.cells, List.set_cons_zero, List.set_cons_succ] at H
  refine r_move rfl ?_
  first
    | refine s_append H rfl Try.underlying22 Try.underlying22 Try.type3 rfl (by simp only [upd_get, ev, Nat.reduceEqDiff, ↓reduceIte] <;> rfl) (by simp only [upd_get, ev, Nat.reduceEqDiff, ↓reduceIte] <;> rfl) (by repeat first | exact At.here | apply At.there) (by first | assumption | exact SH.rsR H (by repeat first | exact At.here | apply At.there) | exact SH.rsO H (by repeat first | exact At.here | apply At.there) | exact Rs.toH (by first | assumption | exact SH.rsR H (by repeat first | exact At.here | apply At.there) | exact SH.rsO H (by repeat first | exact At.here | apply At.there)) (by omega) | exact Rs.toL (by first | assumption | exact SH.rsR H (by repeat first | exact At.here | apply At.there) | exact SH.rsO H (by repeat first | exact At.here | apply At.there)) (by omega) | exact Rs.toLH (by first | assumption | exact SH.rsR H (by repeat first | exact At.here | apply At.there) | exact SH.rsO H (by repeat first | exact At.here | apply At.there)) (by omega) (by omega)) (by rfl) (by rfl) (by first | omega | (simp only [Try.t3, List.length_append, List.length_cons, List.length_nil, List.length_map, maxLen]; omega) | (simp [Try.t3, maxLen]; omega)) (by first | omega | (simp only [Try.t3, List.length_append, List.length_cons, List.length_nil, List.length_map, maxLen]; omega) | (simp [Try.t3, maxLen]; omega)) ?_
    | refine s_appendNil H rfl Try.underlying22 Try.underlying22 Try.type3 rfl rfl (by simp only [upd_get, ev, Nat.reduceEqDiff, ↓reduceIte] <;> rfl) (by first | assumption | exact SH.rsR H (by repeat first | exact At.here | apply At.there) | exact SH.rsO H (by repeat first | exact At.here | apply At.there) | exact Rs.toH (by first | assumption | exact SH.rsR H (by repeat first | exact At.here | apply At.there) | exact SH.rsO H (by repeat first | exact At.here | apply At.there)) (by omega) | exact Rs.toL (by first | assumption | exact SH.rsR H (by repeat first | exact At.here | apply At.there) | exact SH.rsO H (by repeat first | exact At.here | apply At.there)) (by omega) | exact Rs.toLH (by first | assumption | exact SH.rsR H (by repeat first | exact At.here | apply At.there) | exact SH.rsO H (by repeat first | exact At.here | apply At.there)) (by omega) (by omega)) (by rfl) (by rfl) (by first | omega | (simp only [Try.t3, List.length_append, List.length_cons, List.length_nil, List.length_map, maxLen]; omega) | (simp [Try.t3, maxLen]; omega)) ?_
  clear H
  intro v2_2 w2_2 g2_2 H hN2_2
  try dsimp only [replC, List.cons_append, List.nil_append, List.append_nil, Value.cells, List.set_cons_zero, List.set_cons_succ] at H
  refine r_assign rfl ?_
  refine LW.nil ?_
  refine thenE_norm ?_
  refine cut (K := K3) [1, 2, 7, 8] (fun σ => ?_)
  simp only [setL, keepE, upd_get, ev, Nat.reduceEqDiff, ↓reduceIte]
  refine h3 _ _ ?_; clear h3; try clear K3
  refine CW.seq (fun K4 h4 => ?_)
  refine CW.region ?_
  refine r_move rfl ?_
  refine r_convI rfl Try.underlying5 Try.underlying3 rfl (wr_i64 (by omega) (by omega)) ?_
  refine r_rem rfl rfl rfl (by omega) (by omega) (wr_i64 (by omega) (by omega)) ?_
  refine r_assign rfl ?_
  refine LW.nil ?_
  refine thenE_norm (h4 _ _ ?_); clear h4; try clear K4
  refine CW.seq (fun K5 h5 => ?_)
  refine CW.region ?_
  refine r_move rfl ?_
  refine r_move rfl ?_
  refine r_call rfl Try.call20 (by simp only [List.map_cons, List.map_nil, List.map_toArray, List.toList_toArray, upd_get, ev, Nat.reduceEqDiff, ↓reduceIte] <;> rfl) (Leave_c _ _ (by exact SH.rsO H (i := 2) rfl) (by first | omega | (simp only [List.length_append, List.length_cons, List.length_nil]; omega) | (simp; omega))) ?_
  rintro _ w4_2 ⟨v4_2, g4_2, rfl, K⟩
  refine ⟨_, rfl, ?_⟩
  replace H := SH.call H K
  clear K
  try dsimp only [replC, List.cons_append, List.nil_append, List.append_nil, Value.cells, List.set_cons_zero, List.set_cons_succ] at H
  refine r_move rfl ?_
  refine r_extract rfl (by simp only [upd_get, ev, Nat.reduceEqDiff, ↓reduceIte] <;> rfl) (by simp only [List.getElem?_toArray, List.getElem?_cons_zero, List.getElem?_cons_succ] <;> rfl) ?_
  refine r_extract rfl (by simp only [upd_get, ev, Nat.reduceEqDiff, ↓reduceIte] <;> rfl) (by simp only [List.getElem?_toArray, List.getElem?_cons_zero, List.getElem?_cons_succ] <;> rfl) ?_
  refine r_assign rfl ?_
  refine r_assign rfl ?_
  refine LW.nil ?_
  refine thenE_norm ?_
  refine cut (K := K5) [2, 7, 8, 9, 10, 11] (fun σ => ?_)
  simp only [setL, keepE, upd_get, ev, Nat.reduceEqDiff, ↓reduceIte]
  refine h5 _ _ ?_; clear h5; try clear K5
  refine CW.seq (fun K6 h6 => ?_)
  refine CW.region ?_
  refine r_move rfl ?_
  refine r_move rfl ?_
  refine r_call rfl Try.call18 (by simp only [List.map_cons, List.map_nil, List.map_toArray, List.toList_toArray, upd_get, ev, Nat.reduceEqDiff, ↓reduceIte] <;> rfl) (Ahead_c _ _ (by exact SH.rsO H (i := 2) rfl)) ?_
  rintro _ _ ⟨rfl, rfl⟩
  refine ⟨_, rfl, ?_⟩
  refine r_move rfl ?_
  refine r_extract rfl (by simp only [upd_get, ev, Nat.reduceEqDiff, ↓reduceIte] <;> rfl) (by simp only [List.getElem?_toArray, List.getElem?_cons_zero, List.getElem?_cons_succ] <;> rfl) ?_
  refine r_extract rfl (by simp only [upd_get, ev, Nat.reduceEqDiff, ↓reduceIte] <;> rfl) (by simp only [List.getElem?_toArray, List.getElem?_cons_zero, List.getElem?_cons_succ] <;> rfl) ?_
  refine r_assign rfl ?_
  refine r_assign rfl ?_
  refine LW.nil ?_
  refine thenE_norm ?_
  refine cut (K := K6) [2, 7, 8, 9, 10, 11, 13] (fun σ => ?_)
  simp only [setL, keepE, upd_get, ev, Nat.reduceEqDiff, ↓reduceIte]
  refine h6 _ _ ?_; clear h6; try clear K6
  refine CW.seq (fun K7 h7 => ?_)
  refine CW.region ?_
  refine r_move rfl ?_
  refine r_move rfl ?_
  refine r_call rfl Try.call18 (by simp only [List.map_cons, List.map_nil, List.map_toArray, List.toList_toArray, upd_get, ev, Nat.reduceEqDiff, ↓reduceIte] <;> rfl) (Ahead_c _ _ (by first | assumption | exact SH.rsR H (by repeat first | exact At.here | apply At.there) | exact SH.rsO H (by repeat first | exact At.here | apply At.there) | exact Rs.toH (by first | assumption | exact SH.rsR H (by repeat first | exact At.here | apply At.there) | exact SH.rsO H (by repeat first | exact At.here | apply At.there)) (by omega) | exact Rs.toL (by first | assumption | exact SH.rsR H (by repeat first | exact At.here | apply At.there) | exact SH.rsO H (by repeat first | exact At.here | apply At.there)) (by omega) | exact Rs.toLH (by first | assumption | exact SH.rsR H (by repeat first | exact At.here | apply At.there) | exact SH.rsO H (by repeat first | exact At.here | apply At.there)) (by omega) (by omega))) ?_
  rintro _ _ ⟨rfl, rfl⟩
  refine ⟨_, rfl, ?_⟩
  refine r_move rfl ?_
  refine r_extract rfl (by simp only [upd_get, ev, Nat.reduceEqDiff, ↓reduceIte] <;> rfl) (by simp only [List.getElem?_toArray, List.getElem?_cons_zero, List.getElem?_cons_succ] <;> rfl) ?_
  refine r_extract rfl (by simp only [upd_get, ev, Nat.reduceEqDiff, ↓reduceIte] <;> rfl) (by simp only [List.getElem?_toArray, List.getElem?_cons_zero, List.getElem?_cons_succ] <;> rfl) ?_
  refine r_assign rfl ?_
  refine r_assign rfl ?_
  refine LW.nil ?_
  refine thenE_norm ?_
  refine cut (K := K7) [2, 7, 8, 10, 11, 13, 15] (fun σ => ?_)
  simp only [setL, keepE, upd_get, ev, Nat.reduceEqDiff, ↓reduceIte]
  refine h7 _ _ ?_; clear h7; try clear K7
  refine CW.seq (fun K8 h8 => ?_)
  refine CW.region ?_
  refine r_assign rfl ?_
  refine LW.nil ?_
  refine thenE_norm (h8 _ _ ?_); clear h8; try clear K8
  refine CW.seq (fun K9 h9 => ?_)
  refine CW.seq (fun K10 h10 => ?_)
  have hle := List.length_erase (a := cl % 8) (l := xs)
  have hne : cl % 8 ∉ xs.erase (cl % 8) := hok.2.not_mem_erase
  have hin : (aheadM xs (cl % 8)).2 = decide (cl % 8 ∈ xs) := by rw [aheadM]; split <;> simp [*]
  have hst : (aheadM (xs.erase (cl % 8)) (cl % 8)).2 = false := by rw [aheadM, if_neg hne]
  rw [hin, hst]
  generalize hcc : cl % 8 = c at *
  refine CW.region ?_
  refine r_assign rfl ?_
  refine LW.nil ?_
  refine thenE_norm (h10 _ _ ?_); clear h10; try clear K10
  refine CW.block ?_
  refine CW.loopR [2, 7, 8, 10, 11, 13, 15] [16, 17] (fun m vs w' => ∃ (i : Nat) (u : Value) (g : Option Nat) (zs : List Int), vs = [u, .int .i64 i] ∧ i ≤ gs.length ∧ i ≤ 20 ∧ m = gs.length - i ∧ zs.length ≤ i ∧ SH Non Any w w' [.R (Old w) gv gs, .O 3 v1_1 xs g1_1, .O 3 v2_2 xs g2_2, .O 3 v4_2 (xs.erase c) g4_2, .O 3 u zs g]) (gs.length) ?_ ?_
  · exact ⟨0, .slice none 0 0, none, [], rfl, by omega, by omega, by omega, by simp, (SH.sel H [1, 2, 3, 4] (by decide) rfl).addO (α := Int) 3⟩
  try clear H
  rintro n1 vs1 wL1 σ ⟨i, u, g, zs, rfl, hi, hi20, rfl, hzl, H⟩
  simp only [setL, keepE, upd_get, ev, Nat.reduceEqDiff, ↓reduceIte]
  refine CW.seq (fun K11 h11 => ?_)
  refine CW.seq (fun K12 h12 => ?_)
  refine CW.region ?_
  refine r_move rfl ?_
  refine r_move rfl ?_
  first
    | refine r_lenV rfl Try.underlying31 (by simp only [upd_get, ev, Nat.reduceEqDiff, ↓reduceIte] <;> rfl) (by first | assumption | exact SH.rsR H (by repeat first | exact At.here | apply At.there) | exact SH.rsO H (by repeat first | exact At.here | apply At.there) | exact Rs.toH (by first | assumption | exact SH.rsR H (by repeat first | exact At.here | apply At.there) | exact SH.rsO H (by repeat first | exact At.here | apply At.there)) (by omega) | exact Rs.toL (by first | assumption | exact SH.rsR H (by repeat first | exact At.here | apply At.there) | exact SH.rsO H (by repeat first | exact At.here | apply At.there)) (by omega) | exact Rs.toLH (by first | assumption | exact SH.rsR H (by repeat first | exact At.here | apply At.there) | exact SH.rsO H (by repeat first | exact At.here | apply At.there)) (by omega) (by omega)) ?_
    | refine r_len rfl Try.underlying31 rfl ?_
  refine r_lss rfl rfl rfl ?_
  refine r_move rfl ?_
  refine' LW.grpAnd (n := 3) (ts := [2, 7, 8, 10, 11, 13, 15, 16, 17]) (d := 56) (tj := 53) rfl (fun hg9_5 => ?_) (fun hg9_5 => ?_) (fun σ => ?_)
  rotate_left
  · simp only [List.take_succ_cons, List.take_zero]
    have hg9_5P := hg9_5
    try simp only [decide_eq_true_eq, decide_eq_false_iff_not, Bool.and_eq_true, Bool.or_eq_true, Bool.and_eq_false_iff, Bool.or_eq_false_iff, Bool.not_eq_true', Bool.not_eq_false', beq_iff_eq, bne_iff_ne] at hg9_5P
    refine LW.want rfl rfl hg9_5 ?_
    refine r_move rfl ?_
    refine LW.want rfl rfl hg9_5 ?_
    refine r_lss rfl rfl rfl ?_
    refine r_pickT rfl rfl hg9_5 ?_
    refine LW.nil (thenE_norm ⟨rfl, rfl, rfl⟩)
  · simp only [List.take_succ_cons, List.take_zero]
    refine LW.skip rfl (fun _ e => by cases e; decide) rfl hg9_5 ?_
    refine LW.skip rfl (fun _ e => by cases e; decide) rfl hg9_5 ?_
    refine r_pickF rfl rfl hg9_5 ?_
    refine LW.nil (thenE_norm ⟨rfl, rfl, rfl⟩)
  simp only [setL, keepE, upd_get, ev, Nat.reduceEqDiff, ↓reduceIte]; simp only [List.drop_succ_cons, List.drop_zero]
  refine LW.nil ?_
  refine thenE_norm (h12 _ _ ?_); clear h12; try clear K12
  refine CW.cond rfl (fun hc1 => ?_) (fun hc1 => ?_)
  · try simp only [decide_eq_true_eq, decide_eq_false_iff_not, Bool.and_eq_true, Bool.or_eq_true, Bool.and_eq_false_iff, Bool.or_eq_false_iff, Bool.not_eq_true', Bool.not_eq_false', beq_iff_eq, bne_iff_ne, ne_eq, Decidable.not_not] at hc1
    refine CW.skip ?_
    refine thenE_norm (h11 _ _ ?_); clear h11; try clear K11
    refine CW.seq (fun K13 h13 => ?_)
    refine CW.block ?_
    obtain ⟨x, hx⟩ := get_of_lt (show i < gs.length by omega)
    have hx8 := x.toNat_lt
    refine CW.region ?_
    refine r_move rfl ?_
    refine r_move rfl ?_
    refine r_move rfl ?_
    refine r_indexAddrV rfl Try.underlying31 (by simp only [upd_get, ev, Nat.reduceEqDiff, ↓reduceIte] <;> rfl) rfl (by first | assumption | exact SH.rsR H (by repeat first | exact At.here | apply At.there) | exact SH.rsO H (by repeat first | exact At.here | apply At.there) | exact Rs.toH (by first | assumption | exact SH.rsR H (by repeat first | exact At.here | apply At.there) | exact SH.rsO H (by repeat first | exact At.here | apply At.there)) (by omega) | exact Rs.toL (by first | assumption | exact SH.rsR H (by repeat first | exact At.here | apply At.there) | exact SH.rsO H (by repeat first | exact At.here | apply At.there)) (by omega) | exact Rs.toLH (by first | assumption | exact SH.rsR H (by repeat first | exact At.here | apply At.there) | exact SH.rsO H (by repeat first | exact At.here | apply At.there)) (by omega) (by omega)) (by exact Try.sizeOf5) (by omega) (by omega) ?_
    refine r_load rfl Try.isAgg5 rfl (by first | exact SH.cellB H (by repeat first | exact At.here | apply At.there) (by rfl) | exact Rs.cell (by first | assumption | exact SH.rsR H (by repeat first | exact At.here | apply At.there) | exact SH.rsO H (by repeat first | exact At.here | apply At.there) | exact Rs.toH (by first | assumption | exact SH.rsR H (by repeat first | exact At.here | apply At.there) | exact SH.rsO H (by repeat first | exact At.here | apply At.there)) (by omega) | exact Rs.toL (by first | assumption | exact SH.rsR H (by repeat first | exact At.here | apply At.there) | exact SH.rsO H (by repeat first | exact At.here | apply At.there)) (by omega) | exact Rs.toLH (by first | assumption | exact SH.rsR H (by repeat first | exact At.here | apply At.there) | exact SH.rsO H (by repeat first | exact At.here | apply At.there)) (by omega) (by omega)) (by assumption) (by rfl) | exact Rs.cell0 (by first | assumption | exact SH.rsR H (by repeat first | exact At.here | apply At.there) | exact SH.rsO H (by repeat first | exact At.here | apply At.there) | exact Rs.toH (by first | assumption | exact SH.rsR H (by repeat first | exact At.here | apply At.there) | exact SH.rsO H (by repeat first | exact At.here | apply At.there)) (by omega) | exact Rs.toL (by first | assumption | exact SH.rsR H (by repeat first | exact At.here | apply At.there) | exact SH.rsO H (by repeat first | exact At.here | apply At.there)) (by omega) | exact Rs.toLH (by first | assumption | exact SH.rsR H (by repeat first | exact At.here | apply At.there) | exact SH.rsO H (by repeat first | exact At.here | apply At.there)) (by omega) (by omega)) (by assumption) (by rfl) | assumption) ?_
    refine r_convI rfl Try.underlying5 Try.underlying3 rfl (wr_i64 (by omega) (by omega)) ?_
    refine r_rem rfl rfl rfl (by omega) (by omega) (wr_i64 (by omega) (by omega)) ?_
    refine r_buildSlice rfl Try.underlying22 Try.sizeOf3 Try.zeroValue3 rfl rfl rfl (by simp only [List.map_cons, List.map_nil, List.toList_toArray, List.foldl_cons, List.foldl_nil, List.replicate_succ, List.replicate_zero, List.set_cons_zero, List.set_cons_succ, upd_get, ev, Nat.reduceEqDiff, ↓reduceIte] <;> rfl) ?_
    intro b11_7 w11_7 hb11_7 hs11_7 hE11_7 hB11_7
    replace H := SH.call H (SH.fromB hE11_7 hb11_7 hs11_7 hB11_7)
    clear hb11_7 hs11_7 hE11_7 hB11_7
    try dsimp only [replC, List.cons_append, List.nil_append, List.append_nil, Value.cells, List.set_cons_zero, List.set_cons_succ] at H
    replace H := SH.row (xs := ([_] : List Int)) (n := 1) (cap := 1) H (by repeat first | exact At.here | apply At.there) (by rfl) (by intro x hx; first | rfl | (simp at hx; done) | (simp only [List.mem_cons, List.not_mem_nil, or_false] at hx; rcases hx with rfl | rfl | rfl | rfl <;> rfl)) (by rfl) rfl (by decide)
    try dsimp only [replC, List.cons_append, List.nil_append, List.append_nil, Value.cells, List.set_cons_zero, List.set_cons_succ] at H
    first
      | refine s_append H rfl Try.underlying22 Try.underlying22 Try.type3 rfl (by simp only [upd_get, ev, Nat.reduceEqDiff, ↓reduceIte] <;> rfl) (by simp only [upd_get, ev, Nat.reduceEqDiff, ↓reduceIte] <;> rfl) (by repeat first | exact At.here | apply At.there) (by first | assumption | exact SH.rsR H (by repeat first | exact At.here | apply At.there) | exact SH.rsO H (by repeat first | exact At.here | apply At.there) | exact Rs.toH (by first | assumption | exact SH.rsR H (by repeat first | exact At.here | apply At.there) | exact SH.rsO H (by repeat first | exact At.here | apply At.there)) (by omega) | exact Rs.toL (by first | assumption | exact SH.rsR H (by repeat first | exact At.here | apply At.there) | exact SH.rsO H (by repeat first | exact At.here | apply At.there)) (by omega) | exact Rs.toLH (by first | assumption | exact SH.rsR H (by repeat first | exact At.here | apply At.there) | exact SH.rsO H (by repeat first | exact At.here | apply At.there)) (by omega) (by omega)) (by rfl) (by rfl) (by first | omega | (simp only [Try.t3, List.length_append, List.length_cons, List.length_nil, List.length_map, maxLen]; omega) | (simp [Try.t3, maxLen]; omega)) (by first | omega | (simp only [Try.t3, List.length_append, List.length_cons, List.length_nil, List.length_map, maxLen]; omega) | (simp [Try.t3, maxLen]; omega)) ?_
      | refine s_appendNil H rfl Try.underlying22 Try.underlying22 Try.type3 rfl rfl (by simp only [upd_get, ev, Nat.reduceEqDiff, ↓reduceIte] <;> rfl) (by first | assumption | exact SH.rsR H (by repeat first | exact At.here | apply At.there) | exact SH.rsO H (by repeat first | exact At.here | apply At.there) | exact Rs.toH (by first | assumption | exact SH.rsR H (by repeat first | exact At.here | apply At.there) | exact SH.rsO H (by repeat first | exact At.here | apply At.there)) (by omega) | exact Rs.toL (by first | assumption | exact SH.rsR H (by repeat first | exact At.here | apply At.there) | exact SH.rsO H (by repeat first | exact At.here | apply At.there)) (by omega) | exact Rs.toLH (by first | assumption | exact SH.rsR H (by repeat first | exact At.here | apply At.there) | exact SH.rsO H (by repeat first | exact At.here | apply At.there)) (by omega) (by omega)) (by rfl) (by rfl) (by first | omega | (simp only [Try.t3, List.length_append, List.length_cons, List.length_nil, List.length_map, maxLen]; omega) | (simp [Try.t3, maxLen]; omega)) ?_
    clear H
    intro v11_8 w11_8 g11_8 H hN11_8
    try dsimp only [replC, List.cons_append, List.nil_append, List.append_nil, Value.cells, List.set_cons_zero, List.set_cons_succ] at H
    refine r_assign rfl ?_
    refine LW.nil ?_
    refine blockE_norm ?_
    refine thenE_norm (h13 _ _ ?_); clear h13; try clear K13
    refine CW.region ?_
    refine r_move rfl ?_
    refine r_add rfl rfl rfl (wr_i64 (by omega) (by omega)) ?_
    refine r_assign rfl ?_
    refine LW.nil ?_
    refine thenE_norm ⟨rfl, ?_⟩
    exact ⟨_, by omega, i + 1, _, _, zs ++ [(x.toNat : Int) % 9], rfl, by omega, by omega, rfl, by simp; omega, (SH.sel H [0, 1, 2, 3, 4] (by decide) (by rfl))⟩
  · try simp only [decide_eq_true_eq, decide_eq_false_iff_not, Bool.and_eq_true, Bool.or_eq_true, Bool.and_eq_false_iff, Bool.or_eq_false_iff, Bool.not_eq_true', Bool.not_eq_false', beq_iff_eq, bne_iff_ne, ne_eq, Decidable.not_not] at hc1
    refine CW.exit (thenE_exit (thenE_exit (blockE_hit ?_)))
    refine thenE_norm (h9 _ _ ?_); clear h9; try clear K9
    refine CW.seq (fun K14 h14 => ?_)
    refine CW.region ?_
    refine r_move rfl ?_
    refine r_move rfl ?_
    refine r_call rfl Try.call23 (by simp only [List.map_cons, List.map_nil, List.map_toArray, List.toList_toArray, upd_get, ev, Nat.reduceEqDiff, ↓reduceIte] <;> rfl) (Without_c _ (by exact SH.rsO H (i := 1) rfl) (by exact SH.rsO H (i := 4) rfl) (by first | omega | (simp only [List.length_append, List.length_cons, List.length_nil]; omega) | (simp; omega))) ?_
    rintro _ w12_2 ⟨v12_2, g12_2, rfl, K⟩
    refine ⟨_, rfl, ?_⟩
    replace H := SH.call H K
    clear K
    try dsimp only [replC, List.cons_append, List.nil_append, List.append_nil, Value.cells, List.set_cons_zero, List.set_cons_succ] at H
    refine r_assign rfl ?_
    refine LW.nil ?_
    refine thenE_norm (h14 _ _ ?_); clear h14; try clear K14
    refine CW.seq (fun K15 h15 => ?_)
    refine CW.region ?_
    refine r_assign rfl ?_
    refine LW.nil ?_
    refine thenE_norm (h15 _ _ ?_); clear h15; try clear K15
    refine CW.seq (fun K16 h16 => ?_)
    refine CW.seq (fun K17 h17 => ?_)
    refine CW.region ?_
    refine r_assign rfl ?_
    refine LW.nil ?_
    refine thenE_norm (h17 _ _ ?_); clear h17; try clear K17
    refine CW.block ?_
    refine CW.loopR [7, 8, 10, 11, 13, 15, 16, 18] [19, 20] (fun m vs w' => ∃ i : Nat, vs = [.int .i64 (((xs.take i).filter fun x => !decide (x ∈ zs)).length : Nat), .int .i64 i] ∧ i ≤ xs.length ∧ m = xs.length - i ∧ SH Non Any w w' [.O 3 v1_1 xs g1_1, .O 3 v2_2 xs g2_2, .O 3 v4_2 (xs.erase c) g4_2, .O 3 u zs g, .O 3 v12_2 (xs.filter fun x => !decide (x ∈ zs)) g12_2]) (xs.length) ?_ ?_
    · exact ⟨0, rfl, by omega, by omega, (SH.sel H [1, 2, 3, 4, 5] (by decide) (by rfl))⟩
    try clear H
    rintro n2 vs2 wL2 σ ⟨k, rfl, hk, rfl, H⟩
    simp only [setL, keepE, upd_get, ev, Nat.reduceEqDiff, ↓reduceIte]
    refine CW.seq (fun K18 h18 => ?_)
    refine CW.seq (fun K19 h19 => ?_)
    refine CW.region ?_
    refine r_move rfl ?_
    refine r_move rfl ?_
    first
      | refine r_lenV rfl Try.underlying22 (by simp only [upd_get, ev, Nat.reduceEqDiff, ↓reduceIte] <;> rfl) (by first | assumption | exact SH.rsR H (by repeat first | exact At.here | apply At.there) | exact SH.rsO H (by repeat first | exact At.here | apply At.there) | exact Rs.toH (by first | assumption | exact SH.rsR H (by repeat first | exact At.here | apply At.there) | exact SH.rsO H (by repeat first | exact At.here | apply At.there)) (by omega) | exact Rs.toL (by first | assumption | exact SH.rsR H (by repeat first | exact At.here | apply At.there) | exact SH.rsO H (by repeat first | exact At.here | apply At.there)) (by omega) | exact Rs.toLH (by first | assumption | exact SH.rsR H (by repeat first | exact At.here | apply At.there) | exact SH.rsO H (by repeat first | exact At.here | apply At.there)) (by omega) (by omega)) ?_
      | refine r_len rfl Try.underlying22 rfl ?_
    refine r_lss rfl rfl rfl ?_
    refine LW.nil ?_
    refine thenE_norm (h19 _ _ ?_); clear h19; try clear K19
    refine CW.cond rfl (fun hc2 => ?_) (fun hc2 => ?_)
    · try simp only [decide_eq_true_eq, decide_eq_false_iff_not, Bool.and_eq_true, Bool.or_eq_true, Bool.and_eq_false_iff, Bool.or_eq_false_iff, Bool.not_eq_true', Bool.not_eq_false', beq_iff_eq, bne_iff_ne, ne_eq, Decidable.not_not] at hc2
      refine CW.skip ?_
      refine thenE_norm (h18 _ _ ?_); clear h18; try clear K18
      refine CW.seq (fun K20 h20 => ?_)
      refine CW.block ?_
      refine CW.seq (fun K21 h21 => ?_)
      refine CW.seq (fun K22 h22 => ?_)
      obtain ⟨x, hx⟩ := get_of_lt (show k < xs.length by omega)
      have hfl := List.length_filter_le (fun x => !decide (x ∈ zs)) (xs.take k)
      have hfl2 : (xs.take k).length ≤ xs.length := by rw [List.length_take]; omega
      refine CW.region ?_
      refine r_move rfl ?_
      refine r_move rfl ?_
      refine r_move rfl ?_
      refine r_indexAddrV rfl Try.underlying22 (by simp only [upd_get, ev, Nat.reduceEqDiff, ↓reduceIte] <;> rfl) rfl (by first | assumption | exact SH.rsR H (by repeat first | exact At.here | apply At.there) | exact SH.rsO H (by repeat first | exact At.here | apply At.there) | exact Rs.toH (by first | assumption | exact SH.rsR H (by repeat first | exact At.here | apply At.there) | exact SH.rsO H (by repeat first | exact At.here | apply At.there)) (by omega) | exact Rs.toL (by first | assumption | exact SH.rsR H (by repeat first | exact At.here | apply At.there) | exact SH.rsO H (by repeat first | exact At.here | apply At.there)) (by omega) | exact Rs.toLH (by first | assumption | exact SH.rsR H (by repeat first | exact At.here | apply At.there) | exact SH.rsO H (by repeat first | exact At.here | apply At.there)) (by omega) (by omega)) (by exact Try.sizeOf3) (by omega) (by omega) ?_
      refine r_load rfl Try.isAgg3 rfl (Rs.cell0 (by exact SH.rsO H (i := 0) rfl) hx rfl) ?_
      refine r_call rfl Try.call19 (by simp only [List.map_cons, List.map_nil, List.map_toArray, List.toList_toArray, upd_get, ev, Nat.reduceEqDiff, ↓reduceIte] <;> rfl) (In_c _ _ (by exact SH.rsO H (i := 3) rfl)) ?_
      rintro _ _ ⟨rfl, rfl⟩
      refine ⟨_, rfl, ?_⟩
      refine LW.nil ?_
      refine thenE_norm ?_
      refine cut (K := K22) [7, 8, 10, 11, 13, 15, 16, 18, 19, 20, 82] (fun σ => ?_)
      simp only [setL, keepE, upd_get, ev, Nat.reduceEqDiff, ↓reduceIte]
      refine h22 _ _ ?_; clear h22; try clear K22
      refine CW.cond rfl (fun hc3 => ?_) (fun hc3 => ?_)
      · try simp only [decide_eq_true_eq, decide_eq_false_iff_not, Bool.and_eq_true, Bool.or_eq_true, Bool.and_eq_false_iff, Bool.or_eq_false_iff, Bool.not_eq_true', Bool.not_eq_false', beq_iff_eq, bne_iff_ne, ne_eq, Decidable.not_not] at hc3
        refine CW.exit (thenE_exit (blockE_hit ?_))
        refine thenE_norm (h20 _ _ ?_); clear h20; try clear K20
        refine CW.region ?_
        refine r_move rfl ?_
        refine r_add rfl rfl rfl (wr_i64 (by omega) (by omega)) ?_
        refine r_assign rfl ?_
        refine LW.nil ?_
        refine thenE_norm ⟨rfl, ?_⟩
        first
          | exact ⟨_, by omega, k + 1, by rw [V.take_snoc hx, List.filter_append, show [x].filter (fun x => !decide (x ∈ zs)) = [] from by simp [hc3], List.append_nil]; rfl, by omega, rfl, H⟩
          | exact ⟨_, by omega, k + 1, by rw [V.take_snoc hx, List.filter_append, show [x].filter (fun x => !decide (x ∈ zs)) = [x] from by simp [hc3], List.length_append]; rfl, by omega, rfl, H⟩
      · try simp only [decide_eq_true_eq, decide_eq_false_iff_not, Bool.and_eq_true, Bool.or_eq_true, Bool.and_eq_false_iff, Bool.or_eq_false_iff, Bool.not_eq_true', Bool.not_eq_false', beq_iff_eq, bne_iff_ne, ne_eq, Decidable.not_not] at hc3
        have hat := filt_at (p := fun x => !decide (x ∈ zs)) hx (by simpa using hc3)
        have hlt := lt_of_get hat
        refine CW.skip ?_
        refine thenE_norm (h21 _ _ ?_); clear h21; try clear K21
        refine CW.seq (fun K23 h23 => ?_)
        refine CW.seq (fun K24 h24 => ?_)
        refine CW.drawH H (List.Sublist.refl _) (by kernel_rfl) rfl ?_
        clear H
        intro w18d H
        refine DW.take (i := 0) rfl (by kernel_rfl) (by kernel_rfl) (by kernel_rfl) rfl rfl (fun u H => x_move ) H ?_
        refine DW.take (i := 1) rfl (by kernel_rfl) (by kernel_rfl) (by kernel_rfl) rfl rfl (fun u H => x_move ) H ?_
        refine DW.take (i := 2) rfl (by kernel_rfl) (by kernel_rfl) (by kernel_rfl) rfl rfl (fun u H => x_lenV Try.underlying22 (by simp only [upd_get, ev, Nat.reduceEqDiff, ↓reduceIte] <;> rfl) (by first | assumption | exact SH.rsR H (by repeat first | exact At.here | apply At.there) | exact SH.rsO H (by repeat first | exact At.here | apply At.there) | exact Rs.toH (by first | assumption | exact SH.rsR H (by repeat first | exact At.here | apply At.there) | exact SH.rsO H (by repeat first | exact At.here | apply At.there)) (by omega) | exact Rs.toL (by first | assumption | exact SH.rsR H (by repeat first | exact At.here | apply At.there) | exact SH.rsO H (by repeat first | exact At.here | apply At.there)) (by omega) | exact Rs.toLH (by first | assumption | exact SH.rsR H (by repeat first | exact At.here | apply At.there) | exact SH.rsO H (by repeat first | exact At.here | apply At.there)) (by omega) (by omega))) H ?_
        refine DW.take (i := 3) rfl (by kernel_rfl) (by kernel_rfl) (by kernel_rfl) rfl rfl (fun u H => x_geq rfl rfl) H ?_
        refine DW.take (i := 4) rfl (by kernel_rfl) (by kernel_rfl) (by kernel_rfl) rfl rfl (fun u H => x_move ) H ?_
        refine DW.known (t := 87) (c := false) rfl (by rw [decide_eq_false_iff_not]; omega) (fun hg18_4 => ?_)
        refine DW.take (i := 5) rfl (by kernel_rfl) (by kernel_rfl) (by kernel_rfl) rfl (wantE rfl rfl hg18_4) (fun u H => x_move ) H ?_
        refine DW.take (i := 6) rfl (by kernel_rfl) (by kernel_rfl) (by kernel_rfl) rfl (wantE rfl rfl hg18_4) (fun u H => x_move ) H ?_
        refine DW.take (i := 7) rfl (by kernel_rfl) (by kernel_rfl) (by kernel_rfl) rfl (wantE rfl rfl hg18_4) (fun u H => x_indexAddrV Try.underlying22 (by simp only [upd_get, ev, Nat.reduceEqDiff, ↓reduceIte] <;> rfl) rfl (by first | assumption | exact SH.rsR H (by repeat first | exact At.here | apply At.there) | exact SH.rsO H (by repeat first | exact At.here | apply At.there) | exact Rs.toH (by first | assumption | exact SH.rsR H (by repeat first | exact At.here | apply At.there) | exact SH.rsO H (by repeat first | exact At.here | apply At.there)) (by omega) | exact Rs.toL (by first | assumption | exact SH.rsR H (by repeat first | exact At.here | apply At.there) | exact SH.rsO H (by repeat first | exact At.here | apply At.there)) (by omega) | exact Rs.toLH (by first | assumption | exact SH.rsR H (by repeat first | exact At.here | apply At.there) | exact SH.rsO H (by repeat first | exact At.here | apply At.there)) (by omega) (by omega)) (by exact Try.sizeOf3) (by omega) (by omega)) H ?_
        refine DW.take (i := 8) rfl (by kernel_rfl) (by kernel_rfl) (by kernel_rfl) rfl (wantE rfl rfl hg18_4) (fun u H => x_load Try.isAgg3 rfl (Rs.cell0 (by exact SH.rsO H (i := 4) rfl) hat rfl)) H ?_
        refine DW.take (i := 9) rfl (by kernel_rfl) (by kernel_rfl) (by kernel_rfl) rfl (wantE rfl rfl hg18_4) (fun u H => x_move ) H ?_
        refine DW.take (i := 10) rfl (by kernel_rfl) (by kernel_rfl) (by kernel_rfl) rfl (wantE rfl rfl hg18_4) (fun u H => x_move ) H ?_
        refine DW.take (i := 11) rfl (by kernel_rfl) (by kernel_rfl) (by kernel_rfl) rfl (wantE rfl rfl hg18_4) (fun u H => x_indexAddrV Try.underlying22 (by simp only [upd_get, ev, Nat.reduceEqDiff, ↓reduceIte] <;> rfl) rfl (by first | assumption | exact SH.rsR H (by repeat first | exact At.here | apply At.there) | exact SH.rsO H (by repeat first | exact At.here | apply At.there) | exact Rs.toH (by first | assumption | exact SH.rsR H (by repeat first | exact At.here | apply At.there) | exact SH.rsO H (by repeat first | exact At.here | apply At.there)) (by omega) | exact Rs.toL (by first | assumption | exact SH.rsR H (by repeat first | exact At.here | apply At.there) | exact SH.rsO H (by repeat first | exact At.here | apply At.there)) (by omega) | exact Rs.toLH (by first | assumption | exact SH.rsR H (by repeat first | exact At.here | apply At.there) | exact SH.rsO H (by repeat first | exact At.here | apply At.there)) (by omega) (by omega)) (by exact Try.sizeOf3) (by omega) (by omega)) H ?_
        refine DW.take (i := 12) rfl (by kernel_rfl) (by kernel_rfl) (by kernel_rfl) rfl (wantE rfl rfl hg18_4) (fun u H => x_load Try.isAgg3 rfl (Rs.cell0 (by exact SH.rsO H (i := 0) rfl) hx rfl)) H ?_
        refine DW.take (i := 13) rfl (by kernel_rfl) (by kernel_rfl) (by kernel_rfl) rfl (wantE rfl rfl hg18_4) (fun u H => x_neq rfl rfl) H ?_
        refine DW.take (i := 14) rfl (by kernel_rfl) (by kernel_rfl) (by kernel_rfl) rfl rfl (fun u H => x_pickF rfl hg18_4) H ?_
        refine DW.done (by kernel_rfl) ?_
        refine thenE_norm ?_
        refine cut (K := K24) [7, 8, 10, 11, 13, 15, 16, 18, 19, 20, 97] (fun σ => ?_)
        simp only [setL, keepE, upd_get, ev, Nat.reduceEqDiff, ↓reduceIte]
        refine h24 _ _ ?_; clear h24; try clear K24
        refine CW.condF rfl (by simp) ?_
        refine CW.skip ?_
        refine thenE_norm (h23 _ _ ?_); clear h23; try clear K23
        refine CW.region ?_
        refine r_move rfl ?_
        refine r_add rfl rfl rfl (wr_i64 (by omega) (by omega)) ?_
        refine r_assign rfl ?_
        refine LW.nil ?_
        refine blockE_norm ?_
        refine thenE_norm (h20 _ _ ?_); clear h20; try clear K20
        refine CW.region ?_
        refine r_move rfl ?_
        refine r_add rfl rfl rfl (wr_i64 (by omega) (by omega)) ?_
        refine r_assign rfl ?_
        refine LW.nil ?_
        refine thenE_norm ⟨rfl, ?_⟩
        first
          | exact ⟨_, by omega, k + 1, by rw [V.take_snoc hx, List.filter_append, show [x].filter (fun x => !decide (x ∈ zs)) = [] from by simp [hc3], List.append_nil]; rfl, by omega, rfl, H⟩
          | exact ⟨_, by omega, k + 1, by rw [V.take_snoc hx, List.filter_append, show [x].filter (fun x => !decide (x ∈ zs)) = [x] from by simp [hc3], List.length_append]; rfl, by omega, rfl, H⟩
    · try simp only [decide_eq_true_eq, decide_eq_false_iff_not, Bool.and_eq_true, Bool.or_eq_true, Bool.and_eq_false_iff, Bool.or_eq_false_iff, Bool.not_eq_true', Bool.not_eq_false', beq_iff_eq, bne_iff_ne, ne_eq, Decidable.not_not] at hc2
      refine CW.exit (thenE_exit (thenE_exit (blockE_hit ?_)))
      refine thenE_norm (h16 _ _ ?_); clear h16; try clear K16
      refine CW.seq (fun K25 h25 => ?_)
      refine CW.seq (fun K26 h26 => ?_)
      obtain rfl : k = xs.length := by omega
      have hsame : c ∉ xs → xs.erase c = xs := List.erase_of_not_mem
      have hlz : c ∈ xs → 1 ≤ xs.length := fun h => List.length_pos_of_mem h
      rw [List.take_length]
      refine CW.region ?_
      refine r_move rfl ?_
      refine r_move rfl ?_
      refine' LW.grpAnd (n := 7) (ts := [7, 8, 10, 11, 13, 15, 18, 19, 109, 112, 119]) (d := 108) (tj := 101) rfl (fun hg21_2 => ?_) (fun hg21_2 => ?_) (fun σ => ?_)
      rotate_left
      · simp only [List.take_succ_cons, List.take_zero]
        have hg21_2P := hg21_2
        try simp only [decide_eq_true_eq, decide_eq_false_iff_not, Bool.and_eq_true, Bool.or_eq_true, Bool.and_eq_false_iff, Bool.or_eq_false_iff, Bool.not_eq_true', Bool.not_eq_false', beq_iff_eq, bne_iff_ne] at hg21_2P
        refine LW.want rfl rfl hg21_2 ?_
        refine r_move rfl ?_
        refine LW.want rfl rfl hg21_2 ?_
        first
          | refine r_lenV rfl Try.underlying22 (by simp only [upd_get, ev, Nat.reduceEqDiff, ↓reduceIte] <;> rfl) (by first | assumption | exact SH.rsR H (by repeat first | exact At.here | apply At.there) | exact SH.rsO H (by repeat first | exact At.here | apply At.there) | exact Rs.toH (by first | assumption | exact SH.rsR H (by repeat first | exact At.here | apply At.there) | exact SH.rsO H (by repeat first | exact At.here | apply At.there)) (by omega) | exact Rs.toL (by first | assumption | exact SH.rsR H (by repeat first | exact At.here | apply At.there) | exact SH.rsO H (by repeat first | exact At.here | apply At.there)) (by omega) | exact Rs.toLH (by first | assumption | exact SH.rsR H (by repeat first | exact At.here | apply At.there) | exact SH.rsO H (by repeat first | exact At.here | apply At.there)) (by omega) (by omega)) ?_
          | refine r_len rfl Try.underlying22 rfl ?_
        refine LW.want rfl rfl hg21_2 ?_
        refine r_move rfl ?_
        refine LW.want rfl rfl hg21_2 ?_
        first
          | refine r_lenV rfl Try.underlying22 (by simp only [upd_get, ev, Nat.reduceEqDiff, ↓reduceIte] <;> rfl) (by first | assumption | exact SH.rsR H (by repeat first | exact At.here | apply At.there) | exact SH.rsO H (by repeat first | exact At.here | apply At.there) | exact Rs.toH (by first | assumption | exact SH.rsR H (by repeat first | exact At.here | apply At.there) | exact SH.rsO H (by repeat first | exact At.here | apply At.there)) (by omega) | exact Rs.toL (by first | assumption | exact SH.rsR H (by repeat first | exact At.here | apply At.there) | exact SH.rsO H (by repeat first | exact At.here | apply At.there)) (by omega) | exact Rs.toLH (by first | assumption | exact SH.rsR H (by repeat first | exact At.here | apply At.there) | exact SH.rsO H (by repeat first | exact At.here | apply At.there)) (by omega) (by omega)) ?_
          | refine r_len rfl Try.underlying22 rfl ?_
        refine LW.want rfl rfl hg21_2 ?_
        refine r_sub rfl rfl rfl (wr_i64 (by omega) (by omega)) ?_
        refine LW.want rfl rfl hg21_2 ?_
        refine r_neq rfl rfl rfl ?_
        refine r_pickT rfl rfl hg21_2 ?_
        refine LW.nil (thenE_norm ⟨rfl, rfl, rfl⟩)
      · simp only [List.take_succ_cons, List.take_zero]
        refine LW.skip rfl (fun _ e => by cases e; decide) rfl hg21_2 ?_
        refine LW.skip rfl (fun _ e => by cases e; decide) rfl hg21_2 ?_
        refine LW.skip rfl (fun _ e => by cases e; decide) rfl hg21_2 ?_
        refine LW.skip rfl (fun _ e => by cases e; decide) rfl hg21_2 ?_
        refine LW.skip rfl (fun _ e => by cases e; decide) rfl hg21_2 ?_
        refine LW.skip rfl (fun _ e => by cases e; decide) rfl hg21_2 ?_
        refine r_pickF rfl rfl hg21_2 ?_
        refine LW.nil (thenE_norm ⟨rfl, rfl, rfl⟩)
      simp only [setL, keepE, upd_get, ev, Nat.reduceEqDiff, ↓reduceIte]; simp only [List.drop_succ_cons, List.drop_zero]
      refine r_move rfl ?_
      refine LW.known (t := 109) (c := false) rfl (by
  by_cases hci : c ∈ xs
  · have := hlz hci
    rw [hle, if_pos hci]; simp [hci]; omega
  · simp [hci]) (fun hg21_10 => ?_)
      refine LW.want rfl rfl hg21_10 ?_
      refine r_move rfl ?_
      refine LW.want rfl rfl hg21_10 ?_
      refine r_not rfl rfl ?_
      refine LW.want rfl rfl hg21_10 ?_
      refine r_move rfl ?_
      refine LW.splitB (t := 112) rfl (fun hg21_13 => ?_) (fun hg21_13 => ?_)
      · have hg21_13P := hg21_13
        try simp only [decide_eq_true_eq, decide_eq_false_iff_not, Bool.and_eq_true, Bool.or_eq_true, Bool.and_eq_false_iff, Bool.or_eq_false_iff, Bool.not_eq_true', Bool.not_eq_false', beq_iff_eq, bne_iff_ne] at hg21_13P
        refine LW.want rfl rfl hg21_13 ?_
        refine r_move rfl ?_
        refine LW.want rfl rfl hg21_13 ?_
        refine r_move rfl ?_
        refine LW.want rfl rfl hg21_13 ?_
        refine r_call rfl Try.call24 (by simp only [List.map_cons, List.map_nil, List.map_toArray, List.toList_toArray, upd_get, ev, Nat.reduceEqDiff, ↓reduceIte] <;> rfl) (SameInts_c _ (by exact SH.rsO H (i := 2) rfl) (by exact SH.rsO H (i := 0) rfl)) ?_
        rintro _ w21_15 ⟨rfl, X⟩
        refine ⟨_, rfl, ?_⟩
        replace H := SH.same H X
        clear X
        refine LW.want rfl rfl hg21_13 ?_
        refine r_not rfl rfl ?_
        refine LW.want rfl rfl hg21_10 ?_
        refine r_pickT rfl rfl hg21_13 ?_
        refine r_pickF rfl rfl hg21_10 ?_
        refine r_move rfl ?_
        refine LW.known (t := 119) (c := false) rfl (by rw [hsame (by simpa using hg21_13)]; simp) (fun hg21_20 => ?_)
        refine LW.want rfl rfl hg21_20 ?_
        refine r_move rfl ?_
        refine LW.want rfl rfl hg21_20 ?_
        refine r_move rfl ?_
        refine LW.want rfl rfl hg21_20 ?_
        first
          | refine r_lenV rfl Try.underlying22 (by simp only [upd_get, ev, Nat.reduceEqDiff, ↓reduceIte] <;> rfl) (by first | assumption | exact SH.rsR H (by repeat first | exact At.here | apply At.there) | exact SH.rsO H (by repeat first | exact At.here | apply At.there) | exact Rs.toH (by first | assumption | exact SH.rsR H (by repeat first | exact At.here | apply At.there) | exact SH.rsO H (by repeat first | exact At.here | apply At.there)) (by omega) | exact Rs.toL (by first | assumption | exact SH.rsR H (by repeat first | exact At.here | apply At.there) | exact SH.rsO H (by repeat first | exact At.here | apply At.there)) (by omega) | exact Rs.toLH (by first | assumption | exact SH.rsR H (by repeat first | exact At.here | apply At.there) | exact SH.rsO H (by repeat first | exact At.here | apply At.there)) (by omega) (by omega)) ?_
          | refine r_len rfl Try.underlying22 rfl ?_
        refine LW.want rfl rfl hg21_20 ?_
        refine r_neq rfl rfl rfl ?_
        refine r_pickF rfl rfl hg21_20 ?_
        refine LW.nil ?_
        refine thenE_norm ?_
        refine cut (K := K26) [7, 8, 10, 11, 13, 15, 18, 124] (fun σ => ?_)
        simp only [setL, keepE, upd_get, ev, Nat.reduceEqDiff, ↓reduceIte]
        refine h26 _ _ ?_; clear h26; try clear K26
        refine CW.condF rfl (by simp) ?_
        refine CW.skip ?_
        refine thenE_norm (h25 _ _ ?_); clear h25; try clear K25
        refine CW.seq (fun K27 h27 => ?_)
        refine CW.seq (fun K28 h28 => ?_)
        refine CW.region ?_
        refine r_assign rfl ?_
        refine LW.nil ?_
        refine thenE_norm (h28 _ _ ?_); clear h28; try clear K28
        refine CW.block ?_
        have hfl := List.length_filter_le (fun x => !decide (x ∈ zs)) xs
        have hel := List.length_erase_le (a := c) (l := xs)
        refine CW.loopR [7, 8, 10, 11, 13, 15, 18] [21] (fun m vs w' => ∃ (i : Nat) (ys : List Int), vs = [.int .i64 i] ∧ i ≤ ys.length ∧ m = ys.length - i ∧ ys.length = (xs.filter fun x => !decide (x ∈ zs)).length ∧ SH Non Any w w' [.O 3 v1_1 xs g1_1, .O 3 v2_2 xs g2_2, .O 3 v4_2 (xs.erase c) g4_2, .O 3 v12_2 ys g12_2]) ((xs.filter fun x => !decide (x ∈ zs)).length) ?_ ?_
        · exact ⟨0, xs.filter fun x => !decide (x ∈ zs), rfl, by omega, by omega, rfl, (SH.sel H [0, 1, 2, 4] (by decide) (by rfl))⟩
        try clear H
        rintro n3 vs3 wL3 σ ⟨k, ys, rfl, hk, rfl, hyl, H⟩
        simp only [setL, keepE, upd_get, ev, Nat.reduceEqDiff, ↓reduceIte]
        refine CW.seq (fun K29 h29 => ?_)
        refine CW.seq (fun K30 h30 => ?_)
        refine CW.region ?_
        refine r_move rfl ?_
        refine r_move rfl ?_
        first
          | refine r_lenV rfl Try.underlying22 (by simp only [upd_get, ev, Nat.reduceEqDiff, ↓reduceIte] <;> rfl) (by first | assumption | exact SH.rsR H (by repeat first | exact At.here | apply At.there) | exact SH.rsO H (by repeat first | exact At.here | apply At.there) | exact Rs.toH (by first | assumption | exact SH.rsR H (by repeat first | exact At.here | apply At.there) | exact SH.rsO H (by repeat first | exact At.here | apply At.there)) (by omega) | exact Rs.toL (by first | assumption | exact SH.rsR H (by repeat first | exact At.here | apply At.there) | exact SH.rsO H (by repeat first | exact At.here | apply At.there)) (by omega) | exact Rs.toLH (by first | assumption | exact SH.rsR H (by repeat first | exact At.here | apply At.there) | exact SH.rsO H (by repeat first | exact At.here | apply At.there)) (by omega) (by omega)) ?_
          | refine r_len rfl Try.underlying22 rfl ?_
        refine r_lss rfl rfl rfl ?_
        refine LW.nil ?_
        refine thenE_norm (h30 _ _ ?_); clear h30; try clear K30
        refine CW.cond rfl (fun hc6 => ?_) (fun hc6 => ?_)
        · try simp only [decide_eq_true_eq, decide_eq_false_iff_not, Bool.and_eq_true, Bool.or_eq_true, Bool.and_eq_false_iff, Bool.or_eq_false_iff, Bool.not_eq_true', Bool.not_eq_false', beq_iff_eq, bne_iff_ne, ne_eq, Decidable.not_not] at hc6
          refine CW.skip ?_
          refine thenE_norm (h29 _ _ ?_); clear h29; try clear K29
          refine CW.seq (fun K31 h31 => ?_)
          refine CW.block ?_
          obtain ⟨x0, hx0⟩ := get_of_lt (show k < ys.length by omega)
          refine CW.region ?_
          refine r_move rfl ?_
          refine r_move rfl ?_
          refine r_indexAddrV rfl Try.underlying22 (by simp only [upd_get, ev, Nat.reduceEqDiff, ↓reduceIte] <;> rfl) rfl (by first | assumption | exact SH.rsR H (by repeat first | exact At.here | apply At.there) | exact SH.rsO H (by repeat first | exact At.here | apply At.there) | exact Rs.toH (by first | assumption | exact SH.rsR H (by repeat first | exact At.here | apply At.there) | exact SH.rsO H (by repeat first | exact At.here | apply At.there)) (by omega) | exact Rs.toL (by first | assumption | exact SH.rsR H (by repeat first | exact At.here | apply At.there) | exact SH.rsO H (by repeat first | exact At.here | apply At.there)) (by omega) | exact Rs.toLH (by first | assumption | exact SH.rsR H (by repeat first | exact At.here | apply At.there) | exact SH.rsO H (by repeat first | exact At.here | apply At.there)) (by omega) (by omega)) (by exact Try.sizeOf3) (by omega) (by omega) ?_
          refine s_storeR (o := 0) (x1 := (77 : Int)) H Try.sizeOf3 rfl (by simp only [upd_get, ev, Nat.reduceEqDiff, ↓reduceIte] <;> rfl) (by first | rfl | exact Rs.oneC (by first | assumption | exact SH.rsR H (by repeat first | exact At.here | apply At.there) | exact SH.rsO H (by repeat first | exact At.here | apply At.there) | exact Rs.toH (by first | assumption | exact SH.rsR H (by repeat first | exact At.here | apply At.there) | exact SH.rsO H (by repeat first | exact At.here | apply At.there)) (by omega) | exact Rs.toL (by first | assumption | exact SH.rsR H (by repeat first | exact At.here | apply At.there) | exact SH.rsO H (by repeat first | exact At.here | apply At.there)) (by omega) | exact Rs.toLH (by first | assumption | exact SH.rsR H (by repeat first | exact At.here | apply At.there) | exact SH.rsO H (by repeat first | exact At.here | apply At.there)) (by omega) (by omega)) | (simp only [List.all_cons, List.all_nil, Bool.and_true, Bool.and_eq_true]; (repeat' constructor) <;> first | rfl | exact Rs.oneC (by first | assumption | exact SH.rsR H (by repeat first | exact At.here | apply At.there) | exact SH.rsO H (by repeat first | exact At.here | apply At.there) | exact Rs.toH (by first | assumption | exact SH.rsR H (by repeat first | exact At.here | apply At.there) | exact SH.rsO H (by repeat first | exact At.here | apply At.there)) (by omega) | exact Rs.toL (by first | assumption | exact SH.rsR H (by repeat first | exact At.here | apply At.there) | exact SH.rsO H (by repeat first | exact At.here | apply At.there)) (by omega) | exact Rs.toLH (by first | assumption | exact SH.rsR H (by repeat first | exact At.here | apply At.there) | exact SH.rsO H (by repeat first | exact At.here | apply At.there)) (by omega) (by omega)))) (by repeat first | exact At.here | apply At.there) (by assumption) (by rfl) (by rfl) (by rfl) (by first | rfl | exact Rs.oneC (by first | assumption | exact SH.rsR H (by repeat first | exact At.here | apply At.there) | exact SH.rsO H (by repeat first | exact At.here | apply At.there) | exact Rs.toH (by first | assumption | exact SH.rsR H (by repeat first | exact At.here | apply At.there) | exact SH.rsO H (by repeat first | exact At.here | apply At.there)) (by omega) | exact Rs.toL (by first | assumption | exact SH.rsR H (by repeat first | exact At.here | apply At.there) | exact SH.rsO H (by repeat first | exact At.here | apply At.there)) (by omega) | exact Rs.toLH (by first | assumption | exact SH.rsR H (by repeat first | exact At.here | apply At.there) | exact SH.rsO H (by repeat first | exact At.here | apply At.there)) (by omega) (by omega)) | (simp only [List.all_cons, List.all_nil, Bool.and_true, Bool.and_eq_true]; (repeat' constructor) <;> first | rfl | exact Rs.oneC (by first | assumption | exact SH.rsR H (by repeat first | exact At.here | apply At.there) | exact SH.rsO H (by repeat first | exact At.here | apply At.there) | exact Rs.toH (by first | assumption | exact SH.rsR H (by repeat first | exact At.here | apply At.there) | exact SH.rsO H (by repeat first | exact At.here | apply At.there)) (by omega) | exact Rs.toL (by first | assumption | exact SH.rsR H (by repeat first | exact At.here | apply At.there) | exact SH.rsO H (by repeat first | exact At.here | apply At.there)) (by omega) | exact Rs.toLH (by first | assumption | exact SH.rsR H (by repeat first | exact At.here | apply At.there) | exact SH.rsO H (by repeat first | exact At.here | apply At.there)) (by omega) (by omega)))) ?_
          clear H
          intro w26_3 H
          try dsimp only [replC, List.cons_append, List.nil_append, List.append_nil, Value.cells, List.set_cons_zero, List.set_cons_succ] at H
          refine LW.nil ?_
          refine blockE_norm ?_
          refine thenE_norm (h31 _ _ ?_); clear h31; try clear K31
          refine CW.region ?_
          refine r_move rfl ?_
          refine r_add rfl rfl rfl (wr_i64 (by omega) (by omega)) ?_
          refine r_assign rfl ?_
          refine LW.nil ?_
          refine thenE_norm ⟨rfl, ?_⟩
          exact ⟨ys.length - (k + 1), by omega, k + 1, ys.set k 77, rfl, by rw [List.length_set]; omega, by rw [List.length_set], by rw [List.length_set]; exact hyl, H⟩
        · try simp only [decide_eq_true_eq, decide_eq_false_iff_not, Bool.and_eq_true, Bool.or_eq_true, Bool.and_eq_false_iff, Bool.or_eq_false_iff, Bool.not_eq_true', Bool.not_eq_false', beq_iff_eq, bne_iff_ne, ne_eq, Decidable.not_not] at hc6
          refine CW.exit (thenE_exit (thenE_exit (blockE_hit ?_)))
          refine thenE_norm (h27 _ _ ?_); clear h27; try clear K27
          refine CW.seq (fun K32 h32 => ?_)
          refine CW.seq (fun K33 h33 => ?_)
          refine CW.region ?_
          refine r_assign rfl ?_
          refine LW.nil ?_
          refine thenE_norm (h33 _ _ ?_); clear h33; try clear K33
          refine CW.block ?_
          refine CW.loopR [7, 8, 10, 11, 13, 15] [22] (fun m vs w' => ∃ (i : Nat) (zs : List Int), vs = [.int .i64 i] ∧ i ≤ zs.length ∧ m = zs.length - i ∧ zs.length = (xs.erase c).length ∧ SH Non Any w w' [.O 3 v1_1 xs g1_1, .O 3 v2_2 xs g2_2, .O 3 v4_2 zs g4_2]) ((xs.erase c).length) ?_ ?_
          · exact ⟨0, xs.erase c, rfl, by omega, by omega, rfl, (SH.sel H [0, 1, 2] (by decide) (by rfl))⟩
          try clear H
          rintro n4 vs4 wL4 σ ⟨k, zs, rfl, hk, rfl, hzl, H⟩
          simp only [setL, keepE, upd_get, ev, Nat.reduceEqDiff, ↓reduceIte]
          refine CW.seq (fun K34 h34 => ?_)
          refine CW.seq (fun K35 h35 => ?_)
          refine CW.region ?_
          refine r_move rfl ?_
          refine r_move rfl ?_
          first
            | refine r_lenV rfl Try.underlying22 (by simp only [upd_get, ev, Nat.reduceEqDiff, ↓reduceIte] <;> rfl) (by first | assumption | exact SH.rsR H (by repeat first | exact At.here | apply At.there) | exact SH.rsO H (by repeat first | exact At.here | apply At.there) | exact Rs.toH (by first | assumption | exact SH.rsR H (by repeat first | exact At.here | apply At.there) | exact SH.rsO H (by repeat first | exact At.here | apply At.there)) (by omega) | exact Rs.toL (by first | assumption | exact SH.rsR H (by repeat first | exact At.here | apply At.there) | exact SH.rsO H (by repeat first | exact At.here | apply At.there)) (by omega) | exact Rs.toLH (by first | assumption | exact SH.rsR H (by repeat first | exact At.here | apply At.there) | exact SH.rsO H (by repeat first | exact At.here | apply At.there)) (by omega) (by omega)) ?_
            | refine r_len rfl Try.underlying22 rfl ?_
          refine r_lss rfl rfl rfl ?_
          refine LW.nil ?_
          refine thenE_norm (h35 _ _ ?_); clear h35; try clear K35
          refine CW.cond rfl (fun hc7 => ?_) (fun hc7 => ?_)
          · try simp only [decide_eq_true_eq, decide_eq_false_iff_not, Bool.and_eq_true, Bool.or_eq_true, Bool.and_eq_false_iff, Bool.or_eq_false_iff, Bool.not_eq_true', Bool.not_eq_false', beq_iff_eq, bne_iff_ne, ne_eq, Decidable.not_not] at hc7
            refine CW.skip ?_
            refine thenE_norm (h34 _ _ ?_); clear h34; try clear K34
            refine CW.seq (fun K36 h36 => ?_)
            refine CW.block ?_
            obtain ⟨x0, hx0⟩ := get_of_lt (show k < zs.length by omega)
            refine CW.region ?_
            refine r_move rfl ?_
            refine r_move rfl ?_
            refine r_indexAddrV rfl Try.underlying22 (by simp only [upd_get, ev, Nat.reduceEqDiff, ↓reduceIte] <;> rfl) rfl (by first | assumption | exact SH.rsR H (by repeat first | exact At.here | apply At.there) | exact SH.rsO H (by repeat first | exact At.here | apply At.there) | exact Rs.toH (by first | assumption | exact SH.rsR H (by repeat first | exact At.here | apply At.there) | exact SH.rsO H (by repeat first | exact At.here | apply At.there)) (by omega) | exact Rs.toL (by first | assumption | exact SH.rsR H (by repeat first | exact At.here | apply At.there) | exact SH.rsO H (by repeat first | exact At.here | apply At.there)) (by omega) | exact Rs.toLH (by first | assumption | exact SH.rsR H (by repeat first | exact At.here | apply At.there) | exact SH.rsO H (by repeat first | exact At.here | apply At.there)) (by omega) (by omega)) (by exact Try.sizeOf3) (by omega) (by omega) ?_
            refine s_storeR (o := 0) (x1 := (78 : Int)) H Try.sizeOf3 rfl (by simp only [upd_get, ev, Nat.reduceEqDiff, ↓reduceIte] <;> rfl) (by first | rfl | exact Rs.oneC (by first | assumption | exact SH.rsR H (by repeat first | exact At.here | apply At.there) | exact SH.rsO H (by repeat first | exact At.here | apply At.there) | exact Rs.toH (by first | assumption | exact SH.rsR H (by repeat first | exact At.here | apply At.there) | exact SH.rsO H (by repeat first | exact At.here | apply At.there)) (by omega) | exact Rs.toL (by first | assumption | exact SH.rsR H (by repeat first | exact At.here | apply At.there) | exact SH.rsO H (by repeat first | exact At.here | apply At.there)) (by omega) | exact Rs.toLH (by first | assumption | exact SH.rsR H (by repeat first | exact At.here | apply At.there) | exact SH.rsO H (by repeat first | exact At.here | apply At.there)) (by omega) (by omega)) | (simp only [List.all_cons, List.all_nil, Bool.and_true, Bool.and_eq_true]; (repeat' constructor) <;> first | rfl | exact Rs.oneC (by first | assumption | exact SH.rsR H (by repeat first | exact At.here | apply At.there) | exact SH.rsO H (by repeat first | exact At.here | apply At.there) | exact Rs.toH (by first | assumption | exact SH.rsR H (by repeat first | exact At.here | apply At.there) | exact SH.rsO H (by repeat first | exact At.here | apply At.there)) (by omega) | exact Rs.toL (by first | assumption | exact SH.rsR H (by repeat first | exact At.here | apply At.there) | exact SH.rsO H (by repeat first | exact At.here | apply At.there)) (by omega) | exact Rs.toLH (by first | assumption | exact SH.rsR H (by repeat first | exact At.here | apply At.there) | exact SH.rsO H (by repeat first | exact At.here | apply At.there)) (by omega) (by omega)))) (by repeat first | exact At.here | apply At.there) (by assumption) (by rfl) (by rfl) (by rfl) (by first | rfl | exact Rs.oneC (by first | assumption | exact SH.rsR H (by repeat first | exact At.here | apply At.there) | exact SH.rsO H (by repeat first | exact At.here | apply At.there) | exact Rs.toH (by first | assumption | exact SH.rsR H (by repeat first | exact At.here | apply At.there) | exact SH.rsO H (by repeat first | exact At.here | apply At.there)) (by omega) | exact Rs.toL (by first | assumption | exact SH.rsR H (by repeat first | exact At.here | apply At.there) | exact SH.rsO H (by repeat first | exact At.here | apply At.there)) (by omega) | exact Rs.toLH (by first | assumption | exact SH.rsR H (by repeat first | exact At.here | apply At.there) | exact SH.rsO H (by repeat first | exact At.here | apply At.there)) (by omega) (by omega)) | (simp only [List.all_cons, List.all_nil, Bool.and_true, Bool.and_eq_true]; (repeat' constructor) <;> first | rfl | exact Rs.oneC (by first | assumption | exact SH.rsR H (by repeat first | exact At.here | apply At.there) | exact SH.rsO H (by repeat first | exact At.here | apply At.there) | exact Rs.toH (by first | assumption | exact SH.rsR H (by repeat first | exact At.here | apply At.there) | exact SH.rsO H (by repeat first | exact At.here | apply At.there)) (by omega) | exact Rs.toL (by first | assumption | exact SH.rsR H (by repeat first | exact At.here | apply At.there) | exact SH.rsO H (by repeat first | exact At.here | apply At.there)) (by omega) | exact Rs.toLH (by first | assumption | exact SH.rsR H (by repeat first | exact At.here | apply At.there) | exact SH.rsO H (by repeat first | exact At.here | apply At.there)) (by omega) (by omega)))) ?_
            clear H
            intro w30_3 H
            try dsimp only [replC, List.cons_append, List.nil_append, List.append_nil, Value.cells, List.set_cons_zero, List.set_cons_succ] at H
            refine LW.nil ?_
            refine blockE_norm ?_
            refine thenE_norm (h36 _ _ ?_); clear h36; try clear K36
            refine CW.region ?_
            refine r_move rfl ?_
            refine r_add rfl rfl rfl (wr_i64 (by omega) (by omega)) ?_
            refine r_assign rfl ?_
            refine LW.nil ?_
            refine thenE_norm ⟨rfl, ?_⟩
            exact ⟨zs.length - (k + 1), by omega, k + 1, zs.set k 78, rfl, by rw [List.length_set]; omega, by rw [List.length_set], by rw [List.length_set]; exact hzl, H⟩
          · try simp only [decide_eq_true_eq, decide_eq_false_iff_not, Bool.and_eq_true, Bool.or_eq_true, Bool.and_eq_false_iff, Bool.or_eq_false_iff, Bool.not_eq_true', Bool.not_eq_false', beq_iff_eq, bne_iff_ne, ne_eq, Decidable.not_not] at hc7
            refine CW.exit (thenE_exit (thenE_exit (blockE_hit ?_)))
            refine thenE_norm (h32 _ _ ?_); clear h32; try clear K32
            refine CW.seq (fun K37 h37 => ?_)
            refine CW.region ?_
            refine r_move rfl ?_
            refine r_move rfl ?_
            refine r_eqlB rfl Try.underlying4 rfl rfl ?_
            refine r_move rfl ?_
            refine' LW.grpAnd (n := 3) (ts := [7, 8, 150, 157, 162]) (d := 149) (tj := 146) rfl (fun hg31_4 => ?_) (fun hg31_4 => ?_) (fun σ => ?_)
            rotate_left
            · simp only [List.take_succ_cons, List.take_zero]
              have hg31_4P := hg31_4
              try simp only [decide_eq_true_eq, decide_eq_false_iff_not, Bool.and_eq_true, Bool.or_eq_true, Bool.and_eq_false_iff, Bool.or_eq_false_iff, Bool.not_eq_true', Bool.not_eq_false', beq_iff_eq, bne_iff_ne] at hg31_4P
              refine LW.want rfl rfl hg31_4 ?_
              refine r_move rfl ?_
              refine LW.want rfl rfl hg31_4 ?_
              refine r_not rfl rfl ?_
              refine r_pickT rfl rfl hg31_4 ?_
              refine LW.nil (thenE_norm ⟨rfl, rfl, rfl⟩)
            · simp only [List.take_succ_cons, List.take_zero]
              refine LW.skip rfl (fun _ e => by cases e; decide) rfl hg31_4 ?_
              refine LW.skip rfl (fun _ e => by cases e; decide) rfl hg31_4 ?_
              refine r_pickF rfl rfl hg31_4 ?_
              refine LW.nil (thenE_norm ⟨rfl, rfl, rfl⟩)
            simp only [setL, keepE, upd_get, ev, Nat.reduceEqDiff, ↓reduceIte]; simp only [List.drop_succ_cons, List.drop_zero]
            refine r_move rfl ?_
            refine LW.known (t := 150) (c := true) rfl (by simp) (fun hg31_8 => ?_)
            refine LW.want rfl rfl hg31_8 ?_
            refine r_move rfl ?_
            refine LW.want rfl rfl hg31_8 ?_
            refine r_move rfl ?_
            refine LW.want rfl rfl hg31_8 ?_
            refine r_call rfl Try.call23 (by simp only [List.map_cons, List.map_nil, List.map_toArray, List.toList_toArray, upd_get, ev, Nat.reduceEqDiff, ↓reduceIte] <;> rfl) (Without_c _ (by exact SH.rsO H (i := 0) rfl) (by exact SH.rsO H (i := 0) rfl) (by first | omega | (simp only [List.length_append, List.length_cons, List.length_nil]; omega) | (simp; omega))) ?_
            rintro _ w31_10 ⟨v31_10, g31_10, rfl, K⟩
            refine ⟨_, rfl, ?_⟩
            replace H := SH.call H K
            clear K
            try dsimp only [replC, List.cons_append, List.nil_append, List.append_nil, Value.cells, List.set_cons_zero, List.set_cons_succ] at H
            refine LW.want rfl rfl hg31_8 ?_
            first
              | refine r_lenV rfl Try.underlying22 (by simp only [upd_get, ev, Nat.reduceEqDiff, ↓reduceIte] <;> rfl) (by first | assumption | exact SH.rsR H (by repeat first | exact At.here | apply At.there) | exact SH.rsO H (by repeat first | exact At.here | apply At.there) | exact Rs.toH (by first | assumption | exact SH.rsR H (by repeat first | exact At.here | apply At.there) | exact SH.rsO H (by repeat first | exact At.here | apply At.there)) (by omega) | exact Rs.toL (by first | assumption | exact SH.rsR H (by repeat first | exact At.here | apply At.there) | exact SH.rsO H (by repeat first | exact At.here | apply At.there)) (by omega) | exact Rs.toLH (by first | assumption | exact SH.rsR H (by repeat first | exact At.here | apply At.there) | exact SH.rsO H (by repeat first | exact At.here | apply At.there)) (by omega) (by omega)) ?_
              | refine r_len rfl Try.underlying22 rfl ?_
            refine LW.want rfl rfl hg31_8 ?_
            refine r_eql rfl rfl rfl ?_
            refine r_pickT rfl rfl hg31_8 ?_
            refine r_move rfl ?_
            refine LW.known (t := 157) (c := true) rfl (by simp) (fun hg31_15 => ?_)
            refine LW.want rfl rfl hg31_15 ?_
            refine r_move rfl ?_
            refine LW.want rfl rfl hg31_15 ?_
            refine r_move rfl ?_
            refine LW.want rfl rfl hg31_15 ?_
            refine r_call rfl Try.call24 (by simp only [List.map_cons, List.map_nil, List.map_toArray, List.toList_toArray, upd_get, ev, Nat.reduceEqDiff, ↓reduceIte] <;> rfl) (SameInts_c _ (by exact SH.rsO H (i := 0) rfl) (by exact SH.rsO H (i := 1) rfl)) ?_
            rintro _ w31_17 ⟨rfl, X⟩
            refine ⟨_, rfl, ?_⟩
            replace H := SH.same H X
            clear X
            refine r_pickT rfl rfl hg31_15 ?_
            refine r_move rfl ?_
            refine LW.known (t := 162) (c := true) rfl (by simp) (fun hg31_20 => ?_)
            refine LW.want rfl rfl hg31_20 ?_
            refine r_call rfl Try.call14 (by simp only [List.map_cons, List.map_nil, List.map_toArray, List.toList_toArray, upd_get, ev, Nat.reduceEqDiff, ↓reduceIte] <;> rfl) (awake7_c _) ?_
            rintro _ w31_20 ⟨rfl, X⟩
            refine ⟨_, rfl, ?_⟩
            replace H := SH.same H X
            clear X
            refine r_pickT rfl rfl hg31_20 ?_
            refine r_assign rfl ?_
            refine LW.nil ?_
            refine thenE_norm ?_
            refine cut (K := K37) [6] (fun σ => ?_)
            simp only [setL, keepE, upd_get, ev, Nat.reduceEqDiff, ↓reduceIte]
            refine h37 _ _ ?_; clear h37; try clear K37
            refine CW.ret (ret1 Try.results6 (by simp only [upd_get, ev, Nat.reduceEqDiff, ↓reduceIte]; rfl) ?_)
            exact ⟨rfl, H.ext⟩
      · have hg21_13P := hg21_13
        try simp only [decide_eq_true_eq, decide_eq_false_iff_not, Bool.and_eq_true, Bool.or_eq_true, Bool.and_eq_false_iff, Bool.or_eq_false_iff, Bool.not_eq_true', Bool.not_eq_false', beq_iff_eq, bne_iff_ne] at hg21_13P
        refine LW.skip rfl (fun _ e => by cases e; decide) rfl hg21_13 ?_
        refine LW.skip rfl (fun _ e => by cases e; decide) rfl hg21_13 ?_
        refine LW.skip rfl (fun _ e => by cases e; decide) rfl hg21_13 ?_
        refine LW.skip rfl (fun _ e => by cases e; decide) rfl hg21_13 ?_
        refine LW.want rfl rfl hg21_10 ?_
        refine r_pickF rfl rfl hg21_13 ?_
        refine r_pickF rfl rfl hg21_10 ?_
        refine r_move rfl ?_
        refine LW.known (t := 119) (c := false) rfl (by first | rfl | (simp only [decide_eq_true_eq, decide_eq_false_iff_not, Bool.and_eq_true, Bool.or_eq_true, Bool.and_eq_false_iff, Bool.or_eq_false_iff, Bool.not_eq_true', Bool.not_eq_false', beq_iff_eq, bne_iff_ne]; omega) | simp_all) (fun hg21_20 => ?_)
        refine LW.want rfl rfl hg21_20 ?_
        refine r_move rfl ?_
        refine LW.want rfl rfl hg21_20 ?_
        refine r_move rfl ?_
        refine LW.want rfl rfl hg21_20 ?_
        first
          | refine r_lenV rfl Try.underlying22 (by simp only [upd_get, ev, Nat.reduceEqDiff, ↓reduceIte] <;> rfl) (by first | assumption | exact SH.rsR H (by repeat first | exact At.here | apply At.there) | exact SH.rsO H (by repeat first | exact At.here | apply At.there) | exact Rs.toH (by first | assumption | exact SH.rsR H (by repeat first | exact At.here | apply At.there) | exact SH.rsO H (by repeat first | exact At.here | apply At.there)) (by omega) | exact Rs.toL (by first | assumption | exact SH.rsR H (by repeat first | exact At.here | apply At.there) | exact SH.rsO H (by repeat first | exact At.here | apply At.there)) (by omega) | exact Rs.toLH (by first | assumption | exact SH.rsR H (by repeat first | exact At.here | apply At.there) | exact SH.rsO H (by repeat first | exact At.here | apply At.there)) (by omega) (by omega)) ?_
          | refine r_len rfl Try.underlying22 rfl ?_
        refine LW.want rfl rfl hg21_20 ?_
        refine r_neq rfl rfl rfl ?_
        refine r_pickF rfl rfl hg21_20 ?_
        refine LW.nil ?_
        refine thenE_norm ?_
        refine cut (K := K26) [7, 8, 10, 11, 13, 15, 18, 124] (fun σ => ?_)
        simp only [setL, keepE, upd_get, ev, Nat.reduceEqDiff, ↓reduceIte]
        refine h26 _ _ ?_; clear h26; try clear K26
        refine CW.condF rfl (by simp) ?_
        refine CW.skip ?_
        refine thenE_norm (h25 _ _ ?_); clear h25; try clear K25
        refine CW.seq (fun K38 h38 => ?_)
        refine CW.seq (fun K39 h39 => ?_)
        refine CW.region ?_
        refine r_assign rfl ?_
        refine LW.nil ?_
        refine thenE_norm (h39 _ _ ?_); clear h39; try clear K39
        refine CW.block ?_
        have hfl := List.length_filter_le (fun x => !decide (x ∈ zs)) xs
        have hel := List.length_erase_le (a := c) (l := xs)
        refine CW.loopR [7, 8, 10, 11, 13, 15, 18] [21] (fun m vs w' => ∃ (i : Nat) (ys : List Int), vs = [.int .i64 i] ∧ i ≤ ys.length ∧ m = ys.length - i ∧ ys.length = (xs.filter fun x => !decide (x ∈ zs)).length ∧ SH Non Any w w' [.O 3 v1_1 xs g1_1, .O 3 v2_2 xs g2_2, .O 3 v4_2 (xs.erase c) g4_2, .O 3 v12_2 ys g12_2]) ((xs.filter fun x => !decide (x ∈ zs)).length) ?_ ?_
        · exact ⟨0, xs.filter fun x => !decide (x ∈ zs), rfl, by omega, by omega, rfl, (SH.sel H [0, 1, 2, 4] (by decide) (by rfl))⟩
        try clear H
        rintro n3 vs3 wL3 σ ⟨k, ys, rfl, hk, rfl, hyl, H⟩
        simp only [setL, keepE, upd_get, ev, Nat.reduceEqDiff, ↓reduceIte]
        refine CW.seq (fun K40 h40 => ?_)
        refine CW.seq (fun K41 h41 => ?_)
        refine CW.region ?_
        refine r_move rfl ?_
        refine r_move rfl ?_
        first
          | refine r_lenV rfl Try.underlying22 (by simp only [upd_get, ev, Nat.reduceEqDiff, ↓reduceIte] <;> rfl) (by first | assumption | exact SH.rsR H (by repeat first | exact At.here | apply At.there) | exact SH.rsO H (by repeat first | exact At.here | apply At.there) | exact Rs.toH (by first | assumption | exact SH.rsR H (by repeat first | exact At.here | apply At.there) | exact SH.rsO H (by repeat first | exact At.here | apply At.there)) (by omega) | exact Rs.toL (by first | assumption | exact SH.rsR H (by repeat first | exact At.here | apply At.there) | exact SH.rsO H (by repeat first | exact At.here | apply At.there)) (by omega) | exact Rs.toLH (by first | assumption | exact SH.rsR H (by repeat first | exact At.here | apply At.there) | exact SH.rsO H (by repeat first | exact At.here | apply At.there)) (by omega) (by omega)) ?_
          | refine r_len rfl Try.underlying22 rfl ?_
        refine r_lss rfl rfl rfl ?_
        refine LW.nil ?_
        refine thenE_norm (h41 _ _ ?_); clear h41; try clear K41
        refine CW.cond rfl (fun hc6 => ?_) (fun hc6 => ?_)
        · try simp only [decide_eq_true_eq, decide_eq_false_iff_not, Bool.and_eq_true, Bool.or_eq_true, Bool.and_eq_false_iff, Bool.or_eq_false_iff, Bool.not_eq_true', Bool.not_eq_false', beq_iff_eq, bne_iff_ne, ne_eq, Decidable.not_not] at hc6
          refine CW.skip ?_
          refine thenE_norm (h40 _ _ ?_); clear h40; try clear K40
          refine CW.seq (fun K42 h42 => ?_)
          refine CW.block ?_
          obtain ⟨x0, hx0⟩ := get_of_lt (show k < ys.length by omega)
          refine CW.region ?_
          refine r_move rfl ?_
          refine r_move rfl ?_
          refine r_indexAddrV rfl Try.underlying22 (by simp only [upd_get, ev, Nat.reduceEqDiff, ↓reduceIte] <;> rfl) rfl (by first | assumption | exact SH.rsR H (by repeat first | exact At.here | apply At.there) | exact SH.rsO H (by repeat first | exact At.here | apply At.there) | exact Rs.toH (by first | assumption | exact SH.rsR H (by repeat first | exact At.here | apply At.there) | exact SH.rsO H (by repeat first | exact At.here | apply At.there)) (by omega) | exact Rs.toL (by first | assumption | exact SH.rsR H (by repeat first | exact At.here | apply At.there) | exact SH.rsO H (by repeat first | exact At.here | apply At.there)) (by omega) | exact Rs.toLH (by first | assumption | exact SH.rsR H (by repeat first | exact At.here | apply At.there) | exact SH.rsO H (by repeat first | exact At.here | apply At.there)) (by omega) (by omega)) (by exact Try.sizeOf3) (by omega) (by omega) ?_
          refine s_storeR (o := 0) (x1 := (77 : Int)) H Try.sizeOf3 rfl (by simp only [upd_get, ev, Nat.reduceEqDiff, ↓reduceIte] <;> rfl) (by first | rfl | exact Rs.oneC (by first | assumption | exact SH.rsR H (by repeat first | exact At.here | apply At.there) | exact SH.rsO H (by repeat first | exact At.here | apply At.there) | exact Rs.toH (by first | assumption | exact SH.rsR H (by repeat first | exact At.here | apply At.there) | exact SH.rsO H (by repeat first | exact At.here | apply At.there)) (by omega) | exact Rs.toL (by first | assumption | exact SH.rsR H (by repeat first | exact At.here | apply At.there) | exact SH.rsO H (by repeat first | exact At.here | apply At.there)) (by omega) | exact Rs.toLH (by first | assumption | exact SH.rsR H (by repeat first | exact At.here | apply At.there) | exact SH.rsO H (by repeat first | exact At.here | apply At.there)) (by omega) (by omega)) | (simp only [List.all_cons, List.all_nil, Bool.and_true, Bool.and_eq_true]; (repeat' constructor) <;> first | rfl | exact Rs.oneC (by first | assumption | exact SH.rsR H (by repeat first | exact At.here | apply At.there) | exact SH.rsO H (by repeat first | exact At.here | apply At.there) | exact Rs.toH (by first | assumption | exact SH.rsR H (by repeat first | exact At.here | apply At.there) | exact SH.rsO H (by repeat first | exact At.here | apply At.there)) (by omega) | exact Rs.toL (by first | assumption | exact SH.rsR H (by repeat first | exact At.here | apply At.there) | exact SH.rsO H (by repeat first | exact At.here | apply At.there)) (by omega) | exact Rs.toLH (by first | assumption | exact SH.rsR H (by repeat first | exact At.here | apply At.there) | exact SH.rsO H (by repeat first | exact At.here | apply At.there)) (by omega) (by omega)))) (by repeat first | exact At.here | apply At.there) (by assumption) (by rfl) (by rfl) (by rfl) (by first | rfl | exact Rs.oneC (by first | assumption | exact SH.rsR H (by repeat first | exact At.here | apply At.there) | exact SH.rsO H (by repeat first | exact At.here | apply At.there) | exact Rs.toH (by first | assumption | exact SH.rsR H (by repeat first | exact At.here | apply At.there) | exact SH.rsO H (by repeat first | exact At.here | apply At.there)) (by omega) | exact Rs.toL (by first | assumption | exact SH.rsR H (by repeat first | exact At.here | apply At.there) | exact SH.rsO H (by repeat first | exact At.here | apply At.there)) (by omega) | exact Rs.toLH (by first | assumption | exact SH.rsR H (by repeat first | exact At.here | apply At.there) | exact SH.rsO H (by repeat first | exact At.here | apply At.there)) (by omega) (by omega)) | (simp only [List.all_cons, List.all_nil, Bool.and_true, Bool.and_eq_true]; (repeat' constructor) <;> first | rfl | exact Rs.oneC (by first | assumption | exact SH.rsR H (by repeat first | exact At.here | apply At.there) | exact SH.rsO H (by repeat first | exact At.here | apply At.there) | exact Rs.toH (by first | assumption | exact SH.rsR H (by repeat first | exact At.here | apply At.there) | exact SH.rsO H (by repeat first | exact At.here | apply At.there)) (by omega) | exact Rs.toL (by first | assumption | exact SH.rsR H (by repeat first | exact At.here | apply At.there) | exact SH.rsO H (by repeat first | exact At.here | apply At.there)) (by omega) | exact Rs.toLH (by first | assumption | exact SH.rsR H (by repeat first | exact At.here | apply At.there) | exact SH.rsO H (by repeat first | exact At.here | apply At.there)) (by omega) (by omega)))) ?_
          clear H
          intro w26_3 H
          try dsimp only [replC, List.cons_append, List.nil_append, List.append_nil, Value.cells, List.set_cons_zero, List.set_cons_succ] at H
          refine LW.nil ?_
          refine blockE_norm ?_
          refine thenE_norm (h42 _ _ ?_); clear h42; try clear K42
          refine CW.region ?_
          refine r_move rfl ?_
          refine r_add rfl rfl rfl (wr_i64 (by omega) (by omega)) ?_
          refine r_assign rfl ?_
          refine LW.nil ?_
          refine thenE_norm ⟨rfl, ?_⟩
          exact ⟨ys.length - (k + 1), by omega, k + 1, ys.set k 77, rfl, by rw [List.length_set]; omega, by rw [List.length_set], by rw [List.length_set]; exact hyl, H⟩
        · try simp only [decide_eq_true_eq, decide_eq_false_iff_not, Bool.and_eq_true, Bool.or_eq_true, Bool.and_eq_false_iff, Bool.or_eq_false_iff, Bool.not_eq_true', Bool.not_eq_false', beq_iff_eq, bne_iff_ne, ne_eq, Decidable.not_not] at hc6
          refine CW.exit (thenE_exit (thenE_exit (blockE_hit ?_)))
          refine thenE_norm (h38 _ _ ?_); clear h38; try clear K38
          refine CW.seq (fun K43 h43 => ?_)
          refine CW.seq (fun K44 h44 => ?_)
          refine CW.region ?_
          refine r_assign rfl ?_
          refine LW.nil ?_
          refine thenE_norm (h44 _ _ ?_); clear h44; try clear K44
          refine CW.block ?_
          refine CW.loopR [7, 8, 10, 11, 13, 15] [22] (fun m vs w' => ∃ (i : Nat) (zs : List Int), vs = [.int .i64 i] ∧ i ≤ zs.length ∧ m = zs.length - i ∧ zs.length = (xs.erase c).length ∧ SH Non Any w w' [.O 3 v1_1 xs g1_1, .O 3 v2_2 xs g2_2, .O 3 v4_2 zs g4_2]) ((xs.erase c).length) ?_ ?_
          · exact ⟨0, xs.erase c, rfl, by omega, by omega, rfl, (SH.sel H [0, 1, 2] (by decide) (by rfl))⟩
          try clear H
          rintro n4 vs4 wL4 σ ⟨k, zs, rfl, hk, rfl, hzl, H⟩
          simp only [setL, keepE, upd_get, ev, Nat.reduceEqDiff, ↓reduceIte]
          refine CW.seq (fun K45 h45 => ?_)
          refine CW.seq (fun K46 h46 => ?_)
          refine CW.region ?_
          refine r_move rfl ?_
          refine r_move rfl ?_
          first
            | refine r_lenV rfl Try.underlying22 (by simp only [upd_get, ev, Nat.reduceEqDiff, ↓reduceIte] <;> rfl) (by first | assumption | exact SH.rsR H (by repeat first | exact At.here | apply At.there) | exact SH.rsO H (by repeat first | exact At.here | apply At.there) | exact Rs.toH (by first | assumption | exact SH.rsR H (by repeat first | exact At.here | apply At.there) | exact SH.rsO H (by repeat first | exact At.here | apply At.there)) (by omega) | exact Rs.toL (by first | assumption | exact SH.rsR H (by repeat first | exact At.here | apply At.there) | exact SH.rsO H (by repeat first | exact At.here | apply At.there)) (by omega) | exact Rs.toLH (by first | assumption | exact SH.rsR H (by repeat first | exact At.here | apply At.there) | exact SH.rsO H (by repeat first | exact At.here | apply At.there)) (by omega) (by omega)) ?_
            | refine r_len rfl Try.underlying22 rfl ?_
          refine r_lss rfl rfl rfl ?_
          refine LW.nil ?_
          refine thenE_norm (h46 _ _ ?_); clear h46; try clear K46
          refine CW.cond rfl (fun hc7 => ?_) (fun hc7 => ?_)
          · try simp only [decide_eq_true_eq, decide_eq_false_iff_not, Bool.and_eq_true, Bool.or_eq_true, Bool.and_eq_false_iff, Bool.or_eq_false_iff, Bool.not_eq_true', Bool.not_eq_false', beq_iff_eq, bne_iff_ne, ne_eq, Decidable.not_not] at hc7
            refine CW.skip ?_
            refine thenE_norm (h45 _ _ ?_); clear h45; try clear K45
            refine CW.seq (fun K47 h47 => ?_)
            refine CW.block ?_
            obtain ⟨x0, hx0⟩ := get_of_lt (show k < zs.length by omega)
            refine CW.region ?_
            refine r_move rfl ?_
            refine r_move rfl ?_
            refine r_indexAddrV rfl Try.underlying22 (by simp only [upd_get, ev, Nat.reduceEqDiff, ↓reduceIte] <;> rfl) rfl (by first | assumption | exact SH.rsR H (by repeat first | exact At.here | apply At.there) | exact SH.rsO H (by repeat first | exact At.here | apply At.there) | exact Rs.toH (by first | assumption | exact SH.rsR H (by repeat first | exact At.here | apply At.there) | exact SH.rsO H (by repeat first | exact At.here | apply At.there)) (by omega) | exact Rs.toL (by first | assumption | exact SH.rsR H (by repeat first | exact At.here | apply At.there) | exact SH.rsO H (by repeat first | exact At.here | apply At.there)) (by omega) | exact Rs.toLH (by first | assumption | exact SH.rsR H (by repeat first | exact At.here | apply At.there) | exact SH.rsO H (by repeat first | exact At.here | apply At.there)) (by omega) (by omega)) (by exact Try.sizeOf3) (by omega) (by omega) ?_
            refine s_storeR (o := 0) (x1 := (78 : Int)) H Try.sizeOf3 rfl (by simp only [upd_get, ev, Nat.reduceEqDiff, ↓reduceIte] <;> rfl) (by first | rfl | exact Rs.oneC (by first | assumption | exact SH.rsR H (by repeat first | exact At.here | apply At.there) | exact SH.rsO H (by repeat first | exact At.here | apply At.there) | exact Rs.toH (by first | assumption | exact SH.rsR H (by repeat first | exact At.here | apply At.there) | exact SH.rsO H (by repeat first | exact At.here | apply At.there)) (by omega) | exact Rs.toL (by first | assumption | exact SH.rsR H (by repeat first | exact At.here | apply At.there) | exact SH.rsO H (by repeat first | exact At.here | apply At.there)) (by omega) | exact Rs.toLH (by first | assumption | exact SH.rsR H (by repeat first | exact At.here | apply At.there) | exact SH.rsO H (by repeat first | exact At.here | apply At.there)) (by omega) (by omega)) | (simp only [List.all_cons, List.all_nil, Bool.and_true, Bool.and_eq_true]; (repeat' constructor) <;> first | rfl | exact Rs.oneC (by first | assumption | exact SH.rsR H (by repeat first | exact At.here | apply At.there) | exact SH.rsO H (by repeat first | exact At.here | apply At.there) | exact Rs.toH (by first | assumption | exact SH.rsR H (by repeat first | exact At.here | apply At.there) | exact SH.rsO H (by repeat first | exact At.here | apply At.there)) (by omega) | exact Rs.toL (by first | assumption | exact SH.rsR H (by repeat first | exact At.here | apply At.there) | exact SH.rsO H (by repeat first | exact At.here | apply At.there)) (by omega) | exact Rs.toLH (by first | assumption | exact SH.rsR H (by repeat first | exact At.here | apply At.there) | exact SH.rsO H (by repeat first | exact At.here | apply At.there)) (by omega) (by omega)))) (by repeat first | exact At.here | apply At.there) (by assumption) (by rfl) (by rfl) (by rfl) (by first | rfl | exact Rs.oneC (by first | assumption | exact SH.rsR H (by repeat first | exact At.here | apply At.there) | exact SH.rsO H (by repeat first | exact At.here | apply At.there) | exact Rs.toH (by first | assumption | exact SH.rsR H (by repeat first | exact At.here | apply At.there) | exact SH.rsO H (by repeat first | exact At.here | apply At.there)) (by omega) | exact Rs.toL (by first | assumption | exact SH.rsR H (by repeat first | exact At.here | apply At.there) | exact SH.rsO H (by repeat first | exact At.here | apply At.there)) (by omega) | exact Rs.toLH (by first | assumption | exact SH.rsR H (by repeat first | exact At.here | apply At.there) | exact SH.rsO H (by repeat first | exact At.here | apply At.there)) (by omega) (by omega)) | (simp only [List.all_cons, List.all_nil, Bool.and_true, Bool.and_eq_true]; (repeat' constructor) <;> first | rfl | exact Rs.oneC (by first | assumption | exact SH.rsR H (by repeat first | exact At.here | apply At.there) | exact SH.rsO H (by repeat first | exact At.here | apply At.there) | exact Rs.toH (by first | assumption | exact SH.rsR H (by repeat first | exact At.here | apply At.there) | exact SH.rsO H (by repeat first | exact At.here | apply At.there)) (by omega) | exact Rs.toL (by first | assumption | exact SH.rsR H (by repeat first | exact At.here | apply At.there) | exact SH.rsO H (by repeat first | exact At.here | apply At.there)) (by omega) | exact Rs.toLH (by first | assumption | exact SH.rsR H (by repeat first | exact At.here | apply At.there) | exact SH.rsO H (by repeat first | exact At.here | apply At.there)) (by omega) (by omega)))) ?_
            clear H
            intro w30_3 H
            try dsimp only [replC, List.cons_append, List.nil_append, List.append_nil, Value.cells, List.set_cons_zero, List.set_cons_succ] at H
            refine LW.nil ?_
            refine blockE_norm ?_
            refine thenE_norm (h47 _ _ ?_); clear h47; try clear K47
            refine CW.region ?_
            refine r_move rfl ?_
            refine r_add rfl rfl rfl (wr_i64 (by omega) (by omega)) ?_
            refine r_assign rfl ?_
            refine LW.nil ?_
            refine thenE_norm ⟨rfl, ?_⟩
            exact ⟨zs.length - (k + 1), by omega, k + 1, zs.set k 78, rfl, by rw [List.length_set]; omega, by rw [List.length_set], by rw [List.length_set]; exact hzl, H⟩
          · try simp only [decide_eq_true_eq, decide_eq_false_iff_not, Bool.and_eq_true, Bool.or_eq_true, Bool.and_eq_false_iff, Bool.or_eq_false_iff, Bool.not_eq_true', Bool.not_eq_false', beq_iff_eq, bne_iff_ne, ne_eq, Decidable.not_not] at hc7
            refine CW.exit (thenE_exit (thenE_exit (blockE_hit ?_)))
            refine thenE_norm (h43 _ _ ?_); clear h43; try clear K43
            refine CW.seq (fun K48 h48 => ?_)
            refine CW.region ?_
            refine r_move rfl ?_
            refine r_move rfl ?_
            refine r_eqlB rfl Try.underlying4 rfl rfl ?_
            refine r_move rfl ?_
            refine' LW.grpAnd (n := 3) (ts := [7, 8, 150, 157, 162]) (d := 149) (tj := 146) rfl (fun hg31_4 => ?_) (fun hg31_4 => ?_) (fun σ => ?_)
            rotate_left
            · simp only [List.take_succ_cons, List.take_zero]
              have hg31_4P := hg31_4
              try simp only [decide_eq_true_eq, decide_eq_false_iff_not, Bool.and_eq_true, Bool.or_eq_true, Bool.and_eq_false_iff, Bool.or_eq_false_iff, Bool.not_eq_true', Bool.not_eq_false', beq_iff_eq, bne_iff_ne] at hg31_4P
              refine LW.want rfl rfl hg31_4 ?_
              refine r_move rfl ?_
              refine LW.want rfl rfl hg31_4 ?_
              refine r_not rfl rfl ?_
              refine r_pickT rfl rfl hg31_4 ?_
              refine LW.nil (thenE_norm ⟨rfl, rfl, rfl⟩)
            · simp only [List.take_succ_cons, List.take_zero]
              refine LW.skip rfl (fun _ e => by cases e; decide) rfl hg31_4 ?_
              refine LW.skip rfl (fun _ e => by cases e; decide) rfl hg31_4 ?_
              refine r_pickF rfl rfl hg31_4 ?_
              refine LW.nil (thenE_norm ⟨rfl, rfl, rfl⟩)
            simp only [setL, keepE, upd_get, ev, Nat.reduceEqDiff, ↓reduceIte]; simp only [List.drop_succ_cons, List.drop_zero]
            refine r_move rfl ?_
            refine LW.known (t := 150) (c := true) rfl (by simp) (fun hg31_8 => ?_)
            refine LW.want rfl rfl hg31_8 ?_
            refine r_move rfl ?_
            refine LW.want rfl rfl hg31_8 ?_
            refine r_move rfl ?_
            refine LW.want rfl rfl hg31_8 ?_
            refine r_call rfl Try.call23 (by simp only [List.map_cons, List.map_nil, List.map_toArray, List.toList_toArray, upd_get, ev, Nat.reduceEqDiff, ↓reduceIte] <;> rfl) (Without_c _ (by exact SH.rsO H (i := 0) rfl) (by exact SH.rsO H (i := 0) rfl) (by first | omega | (simp only [List.length_append, List.length_cons, List.length_nil]; omega) | (simp; omega))) ?_
            rintro _ w31_10 ⟨v31_10, g31_10, rfl, K⟩
            refine ⟨_, rfl, ?_⟩
            replace H := SH.call H K
            clear K
            try dsimp only [replC, List.cons_append, List.nil_append, List.append_nil, Value.cells, List.set_cons_zero, List.set_cons_succ] at H
            refine LW.want rfl rfl hg31_8 ?_
            first
              | refine r_lenV rfl Try.underlying22 (by simp only [upd_get, ev, Nat.reduceEqDiff, ↓reduceIte] <;> rfl) (by first | assumption | exact SH.rsR H (by repeat first | exact At.here | apply At.there) | exact SH.rsO H (by repeat first | exact At.here | apply At.there) | exact Rs.toH (by first | assumption | exact SH.rsR H (by repeat first | exact At.here | apply At.there) | exact SH.rsO H (by repeat first | exact At.here | apply At.there)) (by omega) | exact Rs.toL (by first | assumption | exact SH.rsR H (by repeat first | exact At.here | apply At.there) | exact SH.rsO H (by repeat first | exact At.here | apply At.there)) (by omega) | exact Rs.toLH (by first | assumption | exact SH.rsR H (by repeat first | exact At.here | apply At.there) | exact SH.rsO H (by repeat first | exact At.here | apply At.there)) (by omega) (by omega)) ?_
              | refine r_len rfl Try.underlying22 rfl ?_
            refine LW.want rfl rfl hg31_8 ?_
            refine r_eql rfl rfl rfl ?_
            refine r_pickT rfl rfl hg31_8 ?_
            refine r_move rfl ?_
            refine LW.known (t := 157) (c := true) rfl (by simp) (fun hg31_15 => ?_)
            refine LW.want rfl rfl hg31_15 ?_
            refine r_move rfl ?_
            refine LW.want rfl rfl hg31_15 ?_
            refine r_move rfl ?_
            refine LW.want rfl rfl hg31_15 ?_
            refine r_call rfl Try.call24 (by simp only [List.map_cons, List.map_nil, List.map_toArray, List.toList_toArray, upd_get, ev, Nat.reduceEqDiff, ↓reduceIte] <;> rfl) (SameInts_c _ (by exact SH.rsO H (i := 0) rfl) (by exact SH.rsO H (i := 1) rfl)) ?_
            rintro _ w31_17 ⟨rfl, X⟩
            refine ⟨_, rfl, ?_⟩
            replace H := SH.same H X
            clear X
            refine r_pickT rfl rfl hg31_15 ?_
            refine r_move rfl ?_
            refine LW.known (t := 162) (c := true) rfl (by simp) (fun hg31_20 => ?_)
            refine LW.want rfl rfl hg31_20 ?_
            refine r_call rfl Try.call14 (by simp only [List.map_cons, List.map_nil, List.map_toArray, List.toList_toArray, upd_get, ev, Nat.reduceEqDiff, ↓reduceIte] <;> rfl) (awake7_c _) ?_
            rintro _ w31_20 ⟨rfl, X⟩
            refine ⟨_, rfl, ?_⟩
            replace H := SH.same H X
            clear X
            refine r_pickT rfl rfl hg31_20 ?_
            refine r_assign rfl ?_
            refine LW.nil ?_
            refine thenE_norm ?_
            refine cut (K := K48) [6] (fun σ => ?_)
            simp only [setL, keepE, upd_get, ev, Nat.reduceEqDiff, ↓reduceIte]
            refine h48 _ _ ?_; clear h48; try clear K48
            refine CW.ret (ret1 Try.results6 (by simp only [upd_get, ev, Nat.reduceEqDiff, ↓reduceIte]; rfl) ?_)
            exact ⟨rfl, H.ext⟩
end Go.Proofs.Ytaggdlbjgjagbaa
