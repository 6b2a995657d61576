/-
  The walks of layer 7's laws, the second part.
-/
import Derived.Test.YtaggdlbjgjagbaaVLnE
namespace Go.Proofs.Ytaggdlbjgjagbaa
set_option linter.unusedSimpArgs false
set_option linter.unusedVariables false
open Go.V Go.RowKit

theorem head_next {xs : List Int} {i : Nat} {x g : Int} (hx : xs[i]? = some x) (hg : x ≠ g) : (xs.drop i).filter (fun y => y != g) = x :: (xs.drop (i + 1)).filter (fun y => y != g) := by
  have hl := lt_of_get hx
  have h1 : xs[i] = x := by rw [List.getElem?_eq_getElem hl] at hx; cases hx; rfl
  rw [List.drop_eq_getElem_cons hl, h1, List.filter_cons, if_pos (by simpa using hg)]
theorem head_skip {xs : List Int} {i : Nat} {g : Int} (hx : xs[i]? = some g) : (xs.drop i).filter (fun y => y != g) = (xs.drop (i + 1)).filter (fun y => y != g) := by
  have hl := lt_of_get hx
  have h1 : xs[i] = g := by rw [List.getElem?_eq_getElem hl] at hx; cases hx; rfl
  rw [List.drop_eq_getElem_cons hl, h1, List.filter_cons, if_neg (by simp)]

theorem LineFair_c {F : Nat → Prop} {v : Value} {ns : List UInt8} (lv : Int) (w : World) (hv : Rs F w v ns) (hf : 0 ≤ lv) (hf2 : lv < 256) :
    Calls Try.prog 5 #[v, .int .u8 lv] w fun e w' => e = .returned (.bool true) ∧ Ext0 w w' := by
  have H := (SH.start w).arg hv
  have h63 := hv.len63
  refine calls_of_CW Try.func5 rfl Try.ntmps5 (Nat.le_of_ble_eq_true rfl) ?_
  simp only [argE, argFrom, Nat.reduceAdd]
  refine CW.seq (fun K1 h1 => ?_)
  refine CW.region ?_
  refine r_assign rfl ?_
  refine LW.nil ?_
  refine thenE_norm (h1 _ _ ?_); clear h1; try clear K1
  refine CW.seq (fun K2 h2 => ?_)
  refine CW.region ?_
  refine r_assign rfl ?_
  refine LW.nil ?_
  refine thenE_norm (h2 _ _ ?_); clear h2; try clear K2
  refine CW.seq (fun K3 h3 => ?_)
  refine CW.region ?_
  refine r_assign rfl ?_
  refine LW.nil ?_
  refine thenE_norm (h3 _ _ ?_); clear h3; try clear K3
  refine CW.seq (fun K4 h4 => ?_)
  refine CW.seq (fun K5 h5 => ?_)
  refine CW.region ?_
  refine r_assign rfl ?_
  refine LW.nil ?_
  refine thenE_norm (h5 _ _ ?_); clear h5; try clear K5
  refine CW.block ?_
  refine CW.loopR [0, 1] [5, 6, 7] (fun m vs w' => ∃ (i : Nat) (u1 u2 : Value) (g1 g2 : Option Nat) (xs : List Int), vs = [u1, u2, .int .i64 i] ∧ i ≤ ns.length ∧ m = ns.length - i ∧ lineOk xs ∧ xs.length ≤ 3 ∧ SH Non Any w w' [.R (Old w) v ns, .O 3 u1 xs g1, .O 3 u2 xs g2]) (ns.length) ?_ ?_
  · exact ⟨0, .slice none 0 0, .slice none 0 0, none, none, [], rfl, by omega, by omega, by simp [lineOk], by simp, (H.addO (α := Int) 3).addO (α := Int) 3⟩
  try clear H
  rintro n1 vs1 wL1 σ ⟨i, u1, u2, g1, g2, xs, rfl, hi, rfl, hok, hx3, H⟩
  simp only [setL, keepE, upd_get, ev, Nat.reduceEqDiff, ↓reduceIte]
  refine CW.seq (fun K6 h6 => ?_)
  refine CW.seq (fun K7 h7 => ?_)
  refine CW.region ?_
  refine r_move rfl ?_
  refine r_move rfl ?_
  first
    | refine r_lenV rfl Try.underlying31 (by simp only [upd_get, ev, Nat.reduceEqDiff, ↓reduceIte] <;> rfl) (by first | assumption | exact SH.rsR H (by repeat first | exact At.here | apply At.there) | exact SH.rsO H (by repeat first | exact At.here | apply At.there) | exact Rs.toH (by first | assumption | exact SH.rsR H (by repeat first | exact At.here | apply At.there) | exact SH.rsO H (by repeat first | exact At.here | apply At.there)) (by omega) | exact Rs.toL (by first | assumption | exact SH.rsR H (by repeat first | exact At.here | apply At.there) | exact SH.rsO H (by repeat first | exact At.here | apply At.there)) (by omega) | exact Rs.toLH (by first | assumption | exact SH.rsR H (by repeat first | exact At.here | apply At.there) | exact SH.rsO H (by repeat first | exact At.here | apply At.there)) (by omega) (by omega)) ?_
    | refine r_len rfl Try.underlying31 rfl ?_
  refine r_lss rfl rfl rfl ?_
  refine r_move rfl ?_
  refine' LW.grpAnd (n := 3) (ts := [0, 1, 5, 6, 7]) (d := 27) (tj := 24) rfl (fun hg4_5 => ?_) (fun hg4_5 => ?_) (fun σ => ?_)
  rotate_left
  · simp only [List.take_succ_cons, List.take_zero]
    have hg4_5P := hg4_5
    try simp only [decide_eq_true_eq, decide_eq_false_iff_not, Bool.and_eq_true, Bool.or_eq_true, Bool.and_eq_false_iff, Bool.or_eq_false_iff, Bool.not_eq_true', Bool.not_eq_false', beq_iff_eq, bne_iff_ne] at hg4_5P
    refine LW.want rfl rfl hg4_5 ?_
    refine r_move rfl ?_
    refine LW.want rfl rfl hg4_5 ?_
    refine r_lss rfl rfl rfl ?_
    refine r_pickT rfl rfl hg4_5 ?_
    refine LW.nil (thenE_norm ⟨rfl, rfl, rfl⟩)
  · simp only [List.take_succ_cons, List.take_zero]
    refine LW.skip rfl (fun _ e => by cases e; decide) rfl hg4_5 ?_
    refine LW.skip rfl (fun _ e => by cases e; decide) rfl hg4_5 ?_
    refine r_pickF rfl rfl hg4_5 ?_
    refine LW.nil (thenE_norm ⟨rfl, rfl, rfl⟩)
  simp only [setL, keepE, upd_get, ev, Nat.reduceEqDiff, ↓reduceIte]; simp only [List.drop_succ_cons, List.drop_zero]
  refine LW.nil ?_
  refine thenE_norm (h7 _ _ ?_); clear h7; try clear K7
  refine CW.cond rfl (fun hc1 => ?_) (fun hc1 => ?_)
  · try simp only [decide_eq_true_eq, decide_eq_false_iff_not, Bool.and_eq_true, Bool.or_eq_true, Bool.and_eq_false_iff, Bool.or_eq_false_iff, Bool.not_eq_true', Bool.not_eq_false', beq_iff_eq, bne_iff_ne, ne_eq, Decidable.not_not] at hc1
    refine CW.skip ?_
    refine thenE_norm (h6 _ _ ?_); clear h6; try clear K6
    refine CW.seq (fun K8 h8 => ?_)
    refine CW.block ?_
    refine CW.seq (fun K9 h9 => ?_)
    obtain ⟨x, hx⟩ := get_of_lt (show i < ns.length by omega)
    have hx8 := x.toNat_lt
    refine CW.region ?_
    refine r_move rfl ?_
    refine r_move rfl ?_
    refine r_indexAddrV rfl Try.underlying31 (by simp only [upd_get, ev, Nat.reduceEqDiff, ↓reduceIte] <;> rfl) rfl (by first | assumption | exact SH.rsR H (by repeat first | exact At.here | apply At.there) | exact SH.rsO H (by repeat first | exact At.here | apply At.there) | exact Rs.toH (by first | assumption | exact SH.rsR H (by repeat first | exact At.here | apply At.there) | exact SH.rsO H (by repeat first | exact At.here | apply At.there)) (by omega) | exact Rs.toL (by first | assumption | exact SH.rsR H (by repeat first | exact At.here | apply At.there) | exact SH.rsO H (by repeat first | exact At.here | apply At.there)) (by omega) | exact Rs.toLH (by first | assumption | exact SH.rsR H (by repeat first | exact At.here | apply At.there) | exact SH.rsO H (by repeat first | exact At.here | apply At.there)) (by omega) (by omega)) (by exact Try.sizeOf5) (by omega) (by omega) ?_
    refine r_load rfl Try.isAgg5 rfl (by first | exact SH.cellB H (by repeat first | exact At.here | apply At.there) (by rfl) | exact Rs.cell (by first | assumption | exact SH.rsR H (by repeat first | exact At.here | apply At.there) | exact SH.rsO H (by repeat first | exact At.here | apply At.there) | exact Rs.toH (by first | assumption | exact SH.rsR H (by repeat first | exact At.here | apply At.there) | exact SH.rsO H (by repeat first | exact At.here | apply At.there)) (by omega) | exact Rs.toL (by first | assumption | exact SH.rsR H (by repeat first | exact At.here | apply At.there) | exact SH.rsO H (by repeat first | exact At.here | apply At.there)) (by omega) | exact Rs.toLH (by first | assumption | exact SH.rsR H (by repeat first | exact At.here | apply At.there) | exact SH.rsO H (by repeat first | exact At.here | apply At.there)) (by omega) (by omega)) (by assumption) (by rfl) | exact Rs.cell0 (by first | assumption | exact SH.rsR H (by repeat first | exact At.here | apply At.there) | exact SH.rsO H (by repeat first | exact At.here | apply At.there) | exact Rs.toH (by first | assumption | exact SH.rsR H (by repeat first | exact At.here | apply At.there) | exact SH.rsO H (by repeat first | exact At.here | apply At.there)) (by omega) | exact Rs.toL (by first | assumption | exact SH.rsR H (by repeat first | exact At.here | apply At.there) | exact SH.rsO H (by repeat first | exact At.here | apply At.there)) (by omega) | exact Rs.toLH (by first | assumption | exact SH.rsR H (by repeat first | exact At.here | apply At.there) | exact SH.rsO H (by repeat first | exact At.here | apply At.there)) (by omega) (by omega)) (by assumption) (by rfl) | assumption) ?_
    refine r_convI rfl Try.underlying5 Try.underlying3 rfl (wr_i64 (by omega) (by omega)) ?_
    refine r_rem rfl rfl rfl (by omega) (by omega) (wr_i64 (by omega) (by omega)) ?_
    refine r_assign rfl ?_
    refine LW.nil ?_
    refine thenE_norm (h9 _ _ ?_); clear h9; try clear K9
    refine CW.seq (fun K10 h10 => ?_)
    refine CW.region ?_
    refine r_move rfl ?_
    refine r_move rfl ?_
    refine r_call rfl Try.call17 (by simp only [List.map_cons, List.map_nil, List.map_toArray, List.toList_toArray, upd_get, ev, Nat.reduceEqDiff, ↓reduceIte] <;> rfl) (Join_c _ _ (by exact SH.rsO H (i := 1) rfl)) ?_
    rintro _ w7_2 ⟨v7_2, g7_2, rfl, K⟩
    refine ⟨_, rfl, ?_⟩
    replace H := SH.call H K
    clear K
    try dsimp only [replC, List.cons_append, List.nil_append, List.append_nil, Value.cells, List.set_cons_zero, List.set_cons_succ] at H
    have hcc : clientM ((x.toNat : Int) % 8) = true := clientM_mod _
    have hcode := join_code (xs := xs) hcc
    have hjo := join_ok (c := (x.toNat : Int) % 8) hok
    generalize hJ : joinM xs ((x.toNat : Int) % 8) = J at *
    obtain ⟨J1, J2, J3⟩ := J
    dsimp only at H hcode hjo ⊢
    refine r_move rfl ?_
    refine r_extract rfl (by simp only [upd_get, ev, Nat.reduceEqDiff, ↓reduceIte] <;> rfl) (by simp only [List.getElem?_toArray, List.getElem?_cons_zero, List.getElem?_cons_succ] <;> rfl) ?_
    refine r_extract rfl (by simp only [upd_get, ev, Nat.reduceEqDiff, ↓reduceIte] <;> rfl) (by simp only [List.getElem?_toArray, List.getElem?_cons_zero, List.getElem?_cons_succ] <;> rfl) ?_
    refine r_extract rfl (by simp only [upd_get, ev, Nat.reduceEqDiff, ↓reduceIte] <;> rfl) (by simp only [List.getElem?_toArray, List.getElem?_cons_zero, List.getElem?_cons_succ] <;> rfl) ?_
    refine r_assign rfl ?_
    refine r_assign rfl ?_
    refine r_assign rfl ?_
    refine LW.nil ?_
    refine thenE_norm ?_
    refine cut (K := K10) [0, 1, 5, 6, 7, 8, 9, 10, 11] (fun σ => ?_)
    simp only [setL, keepE, upd_get, ev, Nat.reduceEqDiff, ↓reduceIte]
    refine h10 _ _ ?_; clear h10; try clear K10
    refine CW.seq (fun K11 h11 => ?_)
    refine CW.region ?_
    refine r_move rfl ?_
    refine LW.nil ?_
    refine thenE_norm (h11 _ _ ?_); clear h11; try clear K11
    refine CW.block ?_
    refine CW.seq (fun K12 h12 => ?_)
    refine CW.region ?_
    refine r_eql rfl rfl rfl ?_
    refine r_assign rfl ?_
    refine LW.nil ?_
    refine thenE_norm (h12 _ _ ?_); clear h12; try clear K12
    refine CW.cond rfl (fun hc2 => ?_) (fun hc2 => ?_)
    · try simp only [decide_eq_true_eq, decide_eq_false_iff_not, Bool.and_eq_true, Bool.or_eq_true, Bool.and_eq_false_iff, Bool.or_eq_false_iff, Bool.not_eq_true', Bool.not_eq_false', beq_iff_eq, bne_iff_ne, ne_eq, Decidable.not_not] at hc2
      obtain ⟨rfl, rfl, hok2, hlt⟩ := hjo hc2
      refine CW.seq (fun K13 h13 => ?_)
      refine CW.seq (fun K14 h14 => ?_)
      refine CW.region ?_
      refine r_move rfl ?_
      refine r_move rfl ?_
      first
        | refine r_lenV rfl Try.underlying22 (by simp only [upd_get, ev, Nat.reduceEqDiff, ↓reduceIte] <;> rfl) (by first | assumption | exact SH.rsR H (by repeat first | exact At.here | apply At.there) | exact SH.rsO H (by repeat first | exact At.here | apply At.there) | exact Rs.toH (by first | assumption | exact SH.rsR H (by repeat first | exact At.here | apply At.there) | exact SH.rsO H (by repeat first | exact At.here | apply At.there)) (by omega) | exact Rs.toL (by first | assumption | exact SH.rsR H (by repeat first | exact At.here | apply At.there) | exact SH.rsO H (by repeat first | exact At.here | apply At.there)) (by omega) | exact Rs.toLH (by first | assumption | exact SH.rsR H (by repeat first | exact At.here | apply At.there) | exact SH.rsO H (by repeat first | exact At.here | apply At.there)) (by omega) (by omega)) ?_
        | refine r_len rfl Try.underlying22 rfl ?_
      refine r_neq rfl rfl rfl ?_
      refine r_move rfl ?_
      refine' LW.grpOr (n := 7) (ts := [0, 1, 6, 7, 8, 9]) (d := 57) (tj := 50) rfl (fun hg11_5 => ?_) (fun hg11_5 => ?_) (fun σ => ?_)
      rotate_left
      · simp only [List.take_succ_cons, List.take_zero]
        have hg11_5P := hg11_5
        try simp only [decide_eq_true_eq, decide_eq_false_iff_not, Bool.and_eq_true, Bool.or_eq_true, Bool.and_eq_false_iff, Bool.or_eq_false_iff, Bool.not_eq_true', Bool.not_eq_false', beq_iff_eq, bne_iff_ne] at hg11_5P
        refine LW.want rfl rfl hg11_5 ?_
        refine r_move rfl ?_
        refine LW.want rfl rfl hg11_5 ?_
        first
          | refine r_lenV rfl Try.underlying22 (by simp only [upd_get, ev, Nat.reduceEqDiff, ↓reduceIte] <;> rfl) (by first | assumption | exact SH.rsR H (by repeat first | exact At.here | apply At.there) | exact SH.rsO H (by repeat first | exact At.here | apply At.there) | exact Rs.toH (by first | assumption | exact SH.rsR H (by repeat first | exact At.here | apply At.there) | exact SH.rsO H (by repeat first | exact At.here | apply At.there)) (by omega) | exact Rs.toL (by first | assumption | exact SH.rsR H (by repeat first | exact At.here | apply At.there) | exact SH.rsO H (by repeat first | exact At.here | apply At.there)) (by omega) | exact Rs.toLH (by first | assumption | exact SH.rsR H (by repeat first | exact At.here | apply At.there) | exact SH.rsO H (by repeat first | exact At.here | apply At.there)) (by omega) (by omega)) ?_
          | refine r_len rfl Try.underlying22 rfl ?_
        refine LW.want rfl rfl hg11_5 ?_
        refine r_move rfl ?_
        refine LW.want rfl rfl hg11_5 ?_
        first
          | refine r_lenV rfl Try.underlying22 (by simp only [upd_get, ev, Nat.reduceEqDiff, ↓reduceIte] <;> rfl) (by first | assumption | exact SH.rsR H (by repeat first | exact At.here | apply At.there) | exact SH.rsO H (by repeat first | exact At.here | apply At.there) | exact Rs.toH (by first | assumption | exact SH.rsR H (by repeat first | exact At.here | apply At.there) | exact SH.rsO H (by repeat first | exact At.here | apply At.there)) (by omega) | exact Rs.toL (by first | assumption | exact SH.rsR H (by repeat first | exact At.here | apply At.there) | exact SH.rsO H (by repeat first | exact At.here | apply At.there)) (by omega) | exact Rs.toLH (by first | assumption | exact SH.rsR H (by repeat first | exact At.here | apply At.there) | exact SH.rsO H (by repeat first | exact At.here | apply At.there)) (by omega) (by omega)) ?_
          | refine r_len rfl Try.underlying22 rfl ?_
        refine LW.want rfl rfl hg11_5 ?_
        refine r_add rfl rfl rfl (wr_i64 (by omega) (by omega)) ?_
        refine LW.want rfl rfl hg11_5 ?_
        refine r_neq rfl rfl rfl ?_
        refine r_pickF rfl rfl hg11_5 ?_
        refine LW.nil (thenE_norm ⟨rfl, rfl, rfl⟩)
      · simp only [List.take_succ_cons, List.take_zero]
        refine LW.skip rfl (fun _ e => by cases e; decide) rfl hg11_5 ?_
        refine LW.skip rfl (fun _ e => by cases e; decide) rfl hg11_5 ?_
        refine LW.skip rfl (fun _ e => by cases e; decide) rfl hg11_5 ?_
        refine LW.skip rfl (fun _ e => by cases e; decide) rfl hg11_5 ?_
        refine LW.skip rfl (fun _ e => by cases e; decide) rfl hg11_5 ?_
        refine LW.skip rfl (fun _ e => by cases e; decide) rfl hg11_5 ?_
        refine r_pickT rfl rfl hg11_5 ?_
        refine LW.nil (thenE_norm ⟨rfl, rfl, rfl⟩)
      simp only [setL, keepE, upd_get, ev, Nat.reduceEqDiff, ↓reduceIte]; simp only [List.drop_succ_cons, List.drop_zero]
      refine LW.nil ?_
      refine thenE_norm (h14 _ _ ?_); clear h14; try clear K14
      refine CW.condF rfl (by simp) ?_
      refine CW.skip ?_
      refine thenE_norm (h13 _ _ ?_); clear h13; try clear K13
      refine CW.seq (fun K15 h15 => ?_)
      refine CW.region ?_
      refine r_move rfl ?_
      refine r_assign rfl ?_
      refine LW.nil ?_
      refine thenE_norm (h15 _ _ ?_); clear h15; try clear K15
      refine CW.region ?_
      refine r_move rfl ?_
      refine r_move rfl ?_
      refine r_buildSlice rfl Try.underlying22 Try.sizeOf3 Try.zeroValue3 rfl rfl rfl (by simp only [List.map_cons, List.map_nil, List.toList_toArray, List.foldl_cons, List.foldl_nil, List.replicate_succ, List.replicate_zero, List.set_cons_zero, List.set_cons_succ, upd_get, ev, Nat.reduceEqDiff, ↓reduceIte] <;> rfl) ?_
      intro b14_2 w14_2 hb14_2 hs14_2 hE14_2 hB14_2
      replace H := SH.call H (SH.fromB hE14_2 hb14_2 hs14_2 hB14_2)
      clear hb14_2 hs14_2 hE14_2 hB14_2
      try dsimp only [replC, List.cons_append, List.nil_append, List.append_nil, Value.cells, List.set_cons_zero, List.set_cons_succ] at H
      replace H := SH.row (xs := ([_] : List Int)) (n := 1) (cap := 1) H (by repeat first | exact At.here | apply At.there) (by rfl) (by intro x hx; first | rfl | (simp at hx; done) | (simp only [List.mem_cons, List.not_mem_nil, or_false] at hx; rcases hx with rfl | rfl | rfl | rfl <;> rfl)) (by rfl) rfl (by decide)
      try dsimp only [replC, List.cons_append, List.nil_append, List.append_nil, Value.cells, List.set_cons_zero, List.set_cons_succ] at H
      first
        | refine s_append H rfl Try.underlying22 Try.underlying22 Try.type3 rfl (by simp only [upd_get, ev, Nat.reduceEqDiff, ↓reduceIte] <;> rfl) (by simp only [upd_get, ev, Nat.reduceEqDiff, ↓reduceIte] <;> rfl) (by repeat first | exact At.here | apply At.there) (by first | assumption | exact SH.rsR H (by repeat first | exact At.here | apply At.there) | exact SH.rsO H (by repeat first | exact At.here | apply At.there) | exact Rs.toH (by first | assumption | exact SH.rsR H (by repeat first | exact At.here | apply At.there) | exact SH.rsO H (by repeat first | exact At.here | apply At.there)) (by omega) | exact Rs.toL (by first | assumption | exact SH.rsR H (by repeat first | exact At.here | apply At.there) | exact SH.rsO H (by repeat first | exact At.here | apply At.there)) (by omega) | exact Rs.toLH (by first | assumption | exact SH.rsR H (by repeat first | exact At.here | apply At.there) | exact SH.rsO H (by repeat first | exact At.here | apply At.there)) (by omega) (by omega)) (by rfl) (by rfl) (by first | omega | (simp only [Try.t3, List.length_append, List.length_cons, List.length_nil, List.length_map, maxLen]; omega) | (simp [Try.t3, maxLen]; omega)) (by first | omega | (simp only [Try.t3, List.length_append, List.length_cons, List.length_nil, List.length_map, maxLen]; omega) | (simp [Try.t3, maxLen]; omega)) ?_
        | refine s_appendNil H rfl Try.underlying22 Try.underlying22 Try.type3 rfl rfl (by simp only [upd_get, ev, Nat.reduceEqDiff, ↓reduceIte] <;> rfl) (by first | assumption | exact SH.rsR H (by repeat first | exact At.here | apply At.there) | exact SH.rsO H (by repeat first | exact At.here | apply At.there) | exact Rs.toH (by first | assumption | exact SH.rsR H (by repeat first | exact At.here | apply At.there) | exact SH.rsO H (by repeat first | exact At.here | apply At.there)) (by omega) | exact Rs.toL (by first | assumption | exact SH.rsR H (by repeat first | exact At.here | apply At.there) | exact SH.rsO H (by repeat first | exact At.here | apply At.there)) (by omega) | exact Rs.toLH (by first | assumption | exact SH.rsR H (by repeat first | exact At.here | apply At.there) | exact SH.rsO H (by repeat first | exact At.here | apply At.there)) (by omega) (by omega)) (by rfl) (by rfl) (by first | omega | (simp only [Try.t3, List.length_append, List.length_cons, List.length_nil, List.length_map, maxLen]; omega) | (simp [Try.t3, maxLen]; omega)) ?_
      clear H
      intro v14_3 w14_3 g14_3 H hN14_3
      try dsimp only [replC, List.cons_append, List.nil_append, List.append_nil, Value.cells, List.set_cons_zero, List.set_cons_succ] at H
      refine r_assign rfl ?_
      refine LW.nil ?_
      refine blockE_norm ?_
      refine blockE_norm ?_
      refine thenE_norm (h8 _ _ ?_); clear h8; try clear K8
      refine CW.region ?_
      refine r_move rfl ?_
      refine r_add rfl rfl rfl (wr_i64 (by omega) (by omega)) ?_
      refine r_assign rfl ?_
      refine LW.nil ?_
      refine thenE_norm ⟨rfl, ?_⟩
      first
        | exact ⟨_, by omega, i + 1, _, _, _, _, _, rfl, by omega, rfl, hok2, by simp; omega, (SH.sel H [0, 3, 2] (by decide) (by rfl))⟩
        | exact ⟨_, by omega, i + 1, _, _, _, _, _, rfl, by omega, rfl, hok, hx3, (SH.sel H [0, 1, 2] (by decide) (by rfl))⟩
    · try simp only [decide_eq_true_eq, decide_eq_false_iff_not, Bool.and_eq_true, Bool.or_eq_true, Bool.and_eq_false_iff, Bool.or_eq_false_iff, Bool.not_eq_true', Bool.not_eq_false', beq_iff_eq, bne_iff_ne, ne_eq, Decidable.not_not] at hc2
      refine CW.seq (fun K16 h16 => ?_)
      refine CW.region ?_
      refine r_eql rfl rfl rfl ?_
      refine r_assign rfl ?_
      refine LW.nil ?_
      refine thenE_norm (h16 _ _ ?_); clear h16; try clear K16
      refine CW.cond rfl (fun hc4 => ?_) (fun hc4 => ?_)
      · try simp only [decide_eq_true_eq, decide_eq_false_iff_not, Bool.and_eq_true, Bool.or_eq_true, Bool.and_eq_false_iff, Bool.or_eq_false_iff, Bool.not_eq_true', Bool.not_eq_false', beq_iff_eq, bne_iff_ne, ne_eq, Decidable.not_not] at hc4
        have hl3 : 3 ≤ xs.length := by rcases hcode with h | h | h; omega; exact h.2; omega
        refine CW.seq (fun K17 h17 => ?_)
        refine CW.region ?_
        refine r_move rfl ?_
        first
          | refine r_lenV rfl Try.underlying22 (by simp only [upd_get, ev, Nat.reduceEqDiff, ↓reduceIte] <;> rfl) (by first | assumption | exact SH.rsR H (by repeat first | exact At.here | apply At.there) | exact SH.rsO H (by repeat first | exact At.here | apply At.there) | exact Rs.toH (by first | assumption | exact SH.rsR H (by repeat first | exact At.here | apply At.there) | exact SH.rsO H (by repeat first | exact At.here | apply At.there)) (by omega) | exact Rs.toL (by first | assumption | exact SH.rsR H (by repeat first | exact At.here | apply At.there) | exact SH.rsO H (by repeat first | exact At.here | apply At.there)) (by omega) | exact Rs.toLH (by first | assumption | exact SH.rsR H (by repeat first | exact At.here | apply At.there) | exact SH.rsO H (by repeat first | exact At.here | apply At.there)) (by omega) (by omega)) ?_
          | refine r_len rfl Try.underlying22 rfl ?_
        refine r_neq rfl rfl rfl ?_
        refine LW.nil ?_
        refine thenE_norm ?_
        refine cut (K := K17) [0, 1, 5, 6, 7, 67] (fun σ => ?_)
        simp only [setL, keepE, upd_get, ev, Nat.reduceEqDiff, ↓reduceIte]
        refine h17 _ _ ?_; clear h17; try clear K17
        refine CW.condF rfl (by simp; omega) ?_
        refine CW.skip ?_
        refine blockE_norm ?_
        refine blockE_norm ?_
        refine thenE_norm (h8 _ _ ?_); clear h8; try clear K8
        refine CW.region ?_
        refine r_move rfl ?_
        refine r_add rfl rfl rfl (wr_i64 (by omega) (by omega)) ?_
        refine r_assign rfl ?_
        refine LW.nil ?_
        refine thenE_norm ⟨rfl, ?_⟩
        first
          | exact ⟨_, by omega, i + 1, _, _, _, _, _, rfl, by omega, rfl, hok2, by simp; omega, (SH.sel H [0, 3, 2] (by decide) (by rfl))⟩
          | exact ⟨_, by omega, i + 1, _, _, _, _, _, rfl, by omega, rfl, hok, hx3, (SH.sel H [0, 1, 2] (by decide) (by rfl))⟩
      · try simp only [decide_eq_true_eq, decide_eq_false_iff_not, Bool.and_eq_true, Bool.or_eq_true, Bool.and_eq_false_iff, Bool.or_eq_false_iff, Bool.not_eq_true', Bool.not_eq_false', beq_iff_eq, bne_iff_ne, ne_eq, Decidable.not_not] at hc4
        refine CW.seq (fun K18 h18 => ?_)
        refine CW.region ?_
        refine r_eql rfl rfl rfl ?_
        refine r_assign rfl ?_
        refine LW.nil ?_
        refine thenE_norm (h18 _ _ ?_); clear h18; try clear K18
        refine CW.condT rfl (by simp; rcases hcode with h | h | h <;> omega) ?_
        refine CW.seq (fun K19 h19 => ?_)
        refine CW.region ?_
        refine r_move rfl ?_
        refine r_move rfl ?_
        refine r_call rfl Try.call19 (by simp only [List.map_cons, List.map_nil, List.map_toArray, List.toList_toArray, upd_get, ev, Nat.reduceEqDiff, ↓reduceIte] <;> rfl) (In_c _ _ (by first | assumption | exact SH.rsR H (by repeat first | exact At.here | apply At.there) | exact SH.rsO H (by repeat first | exact At.here | apply At.there) | exact Rs.toH (by first | assumption | exact SH.rsR H (by repeat first | exact At.here | apply At.there) | exact SH.rsO H (by repeat first | exact At.here | apply At.there)) (by omega) | exact Rs.toL (by first | assumption | exact SH.rsR H (by repeat first | exact At.here | apply At.there) | exact SH.rsO H (by repeat first | exact At.here | apply At.there)) (by omega) | exact Rs.toLH (by first | assumption | exact SH.rsR H (by repeat first | exact At.here | apply At.there) | exact SH.rsO H (by repeat first | exact At.here | apply At.there)) (by omega) (by omega))) ?_
        rintro _ _ ⟨rfl, rfl⟩
        refine ⟨_, rfl, ?_⟩
        refine r_not rfl rfl ?_
        refine LW.nil ?_
        refine thenE_norm ?_
        refine cut (K := K19) [0, 1, 5, 6, 7, 73] (fun σ => ?_)
        simp only [setL, keepE, upd_get, ev, Nat.reduceEqDiff, ↓reduceIte]
        refine h19 _ _ ?_; clear h19; try clear K19
        refine CW.condF rfl (by rw [decide_eq_true]; rfl; rcases hcode with h | h | h; omega; omega; exact h.2) ?_
        refine CW.skip ?_
        refine blockE_norm ?_
        refine blockE_norm ?_
        refine thenE_norm (h8 _ _ ?_); clear h8; try clear K8
        refine CW.region ?_
        refine r_move rfl ?_
        refine r_add rfl rfl rfl (wr_i64 (by omega) (by omega)) ?_
        refine r_assign rfl ?_
        refine LW.nil ?_
        refine thenE_norm ⟨rfl, ?_⟩
        first
          | exact ⟨_, by omega, i + 1, _, _, _, _, _, rfl, by omega, rfl, hok2, by simp; omega, (SH.sel H [0, 3, 2] (by decide) (by rfl))⟩
          | exact ⟨_, by omega, i + 1, _, _, _, _, _, rfl, by omega, rfl, hok, hx3, (SH.sel H [0, 1, 2] (by decide) (by rfl))⟩
  · try simp only [decide_eq_true_eq, decide_eq_false_iff_not, Bool.and_eq_true, Bool.or_eq_true, Bool.and_eq_false_iff, Bool.or_eq_false_iff, Bool.not_eq_true', Bool.not_eq_false', beq_iff_eq, bne_iff_ne, ne_eq, Decidable.not_not] at hc1
    refine CW.exit (thenE_exit (thenE_exit (blockE_hit ?_)))
    refine thenE_norm (h4 _ _ ?_); clear h4; try clear K4
    refine CW.seq (fun K20 h20 => ?_)
    refine CW.region ?_
    refine r_move rfl ?_
    refine r_convI rfl Try.underlying5 Try.underlying3 rfl (wr_i64 (by omega) (by omega)) ?_
    refine r_rem rfl rfl rfl (by omega) (by omega) (wr_i64 (by omega) (by omega)) ?_
    refine r_assign rfl ?_
    refine LW.nil ?_
    refine thenE_norm (h20 _ _ ?_); clear h20; try clear K20
    refine CW.seq (fun K21 h21 => ?_)
    have her : xs.erase (lv % 8) = xs.filter (fun y => y != lv % 8) := hok.2.erase_eq_filter _
    refine CW.region ?_
    refine r_move rfl ?_
    refine r_move rfl ?_
    refine r_call rfl Try.call20 (by simp only [List.map_cons, List.map_nil, List.map_toArray, List.toList_toArray, upd_get, ev, Nat.reduceEqDiff, ↓reduceIte] <;> rfl) (Leave_c _ _ (by exact SH.rsO H (i := 1) rfl) (by first | omega | (simp only [List.length_append, List.length_cons, List.length_nil]; omega) | (simp; omega))) ?_
    rintro _ w22_2 ⟨v22_2, g22_2, rfl, K⟩
    refine ⟨_, rfl, ?_⟩
    replace H := SH.call H K
    clear K
    try dsimp only [replC, List.cons_append, List.nil_append, List.append_nil, Value.cells, List.set_cons_zero, List.set_cons_succ] at H
    rw [her] at H
    refine r_move rfl ?_
    refine r_extract rfl (by simp only [upd_get, ev, Nat.reduceEqDiff, ↓reduceIte] <;> rfl) (by simp only [List.getElem?_toArray, List.getElem?_cons_zero, List.getElem?_cons_succ] <;> rfl) ?_
    refine r_extract rfl (by simp only [upd_get, ev, Nat.reduceEqDiff, ↓reduceIte] <;> rfl) (by simp only [List.getElem?_toArray, List.getElem?_cons_zero, List.getElem?_cons_succ] <;> rfl) ?_
    refine r_assign rfl ?_
    refine LW.nil ?_
    refine thenE_norm ?_
    refine cut (K := K21) [5, 6, 12] (fun σ => ?_)
    simp only [setL, keepE, upd_get, ev, Nat.reduceEqDiff, ↓reduceIte]
    refine h21 _ _ ?_; clear h21; try clear K21
    refine CW.seq (fun K22 h22 => ?_)
    refine CW.seq (fun K23 h23 => ?_)
    refine CW.region ?_
    refine r_assign rfl ?_
    refine LW.nil ?_
    refine thenE_norm (h23 _ _ ?_); clear h23; try clear K23
    refine CW.block ?_
    refine CW.loopR [6, 12] [5, 13] (fun m vs w' => ∃ (i : Nat) (u : Value) (g : Option Nat), vs = [u, .int .i64 i] ∧ i ≤ xs.length ∧ m = xs.length - i ∧ SH Non Any w w' [.O 3 u2 xs g2, .O 3 u ((xs.drop i).filter fun y => y != lv % 8) g]) (xs.length) ?_ ?_
    · exact ⟨0, _, _, rfl, by omega, by omega, (SH.sel H [2, 3] (by decide) (by rfl))⟩
    try clear H
    rintro n2 vs2 wL2 σ ⟨k, u, g, rfl, hk, rfl, H⟩
    simp only [setL, keepE, upd_get, ev, Nat.reduceEqDiff, ↓reduceIte]
    refine CW.seq (fun K24 h24 => ?_)
    refine CW.seq (fun K25 h25 => ?_)
    refine CW.region ?_
    refine r_move rfl ?_
    refine r_move rfl ?_
    first
      | refine r_lenV rfl Try.underlying22 (by simp only [upd_get, ev, Nat.reduceEqDiff, ↓reduceIte] <;> rfl) (by first | assumption | exact SH.rsR H (by repeat first | exact At.here | apply At.there) | exact SH.rsO H (by repeat first | exact At.here | apply At.there) | exact Rs.toH (by first | assumption | exact SH.rsR H (by repeat first | exact At.here | apply At.there) | exact SH.rsO H (by repeat first | exact At.here | apply At.there)) (by omega) | exact Rs.toL (by first | assumption | exact SH.rsR H (by repeat first | exact At.here | apply At.there) | exact SH.rsO H (by repeat first | exact At.here | apply At.there)) (by omega) | exact Rs.toLH (by first | assumption | exact SH.rsR H (by repeat first | exact At.here | apply At.there) | exact SH.rsO H (by repeat first | exact At.here | apply At.there)) (by omega) (by omega)) ?_
      | refine r_len rfl Try.underlying22 rfl ?_
    refine r_lss rfl rfl rfl ?_
    refine LW.nil ?_
    refine thenE_norm (h25 _ _ ?_); clear h25; try clear K25
    refine CW.cond rfl (fun hc8 => ?_) (fun hc8 => ?_)
    · try simp only [decide_eq_true_eq, decide_eq_false_iff_not, Bool.and_eq_true, Bool.or_eq_true, Bool.and_eq_false_iff, Bool.or_eq_false_iff, Bool.not_eq_true', Bool.not_eq_false', beq_iff_eq, bne_iff_ne, ne_eq, Decidable.not_not] at hc8
      refine CW.skip ?_
      refine thenE_norm (h24 _ _ ?_); clear h24; try clear K24
      refine CW.seq (fun K26 h26 => ?_)
      refine CW.block ?_
      refine CW.seq (fun K27 h27 => ?_)
      refine CW.seq (fun K28 h28 => ?_)
      obtain ⟨y, hy⟩ := get_of_lt (show k < xs.length by omega)
      have hfl := List.length_filter_le (fun y => y != lv % 8) (xs.drop k)
      have hfl2 : (xs.drop k).length ≤ xs.length := by rw [List.length_drop]; omega
      refine CW.region ?_
      refine r_move rfl ?_
      refine r_move rfl ?_
      refine r_indexAddrV rfl Try.underlying22 (by simp only [upd_get, ev, Nat.reduceEqDiff, ↓reduceIte] <;> rfl) rfl (by first | assumption | exact SH.rsR H (by repeat first | exact At.here | apply At.there) | exact SH.rsO H (by repeat first | exact At.here | apply At.there) | exact Rs.toH (by first | assumption | exact SH.rsR H (by repeat first | exact At.here | apply At.there) | exact SH.rsO H (by repeat first | exact At.here | apply At.there)) (by omega) | exact Rs.toL (by first | assumption | exact SH.rsR H (by repeat first | exact At.here | apply At.there) | exact SH.rsO H (by repeat first | exact At.here | apply At.there)) (by omega) | exact Rs.toLH (by first | assumption | exact SH.rsR H (by repeat first | exact At.here | apply At.there) | exact SH.rsO H (by repeat first | exact At.here | apply At.there)) (by omega) (by omega)) (by exact Try.sizeOf3) (by omega) (by omega) ?_
      refine r_load rfl Try.isAgg3 rfl (Rs.cell0 (by exact SH.rsO H (i := 0) rfl) hy rfl) ?_
      refine r_move rfl ?_
      refine r_eql rfl rfl rfl ?_
      refine LW.nil ?_
      refine thenE_norm ?_
      refine cut (K := K28) [5, 6, 12, 13, 94] (fun σ => ?_)
      simp only [setL, keepE, upd_get, ev, Nat.reduceEqDiff, ↓reduceIte]
      refine h28 _ _ ?_; clear h28; try clear K28
      refine CW.cond rfl (fun hc9 => ?_) (fun hc9 => ?_)
      · try simp only [decide_eq_true_eq, decide_eq_false_iff_not, Bool.and_eq_true, Bool.or_eq_true, Bool.and_eq_false_iff, Bool.or_eq_false_iff, Bool.not_eq_true', Bool.not_eq_false', beq_iff_eq, bne_iff_ne, ne_eq, Decidable.not_not] at hc9
        subst hc9
        refine CW.exit (thenE_exit (blockE_hit ?_))
        refine thenE_norm (h26 _ _ ?_); clear h26; try clear K26
        refine CW.region ?_
        refine r_move rfl ?_
        refine r_add rfl rfl rfl (wr_i64 (by omega) (by omega)) ?_
        refine r_assign rfl ?_
        refine LW.nil ?_
        refine thenE_norm ⟨rfl, ?_⟩
        first
          | exact ⟨_, by omega, k + 1, _, _, rfl, by omega, rfl, by rw [← head_skip hy]; exact H⟩
          | exact ⟨_, by omega, k + 1, _, _, rfl, by omega, rfl, (SH.sel H [0, 2] (by decide) (by rfl))⟩
      · try simp only [decide_eq_true_eq, decide_eq_false_iff_not, Bool.and_eq_true, Bool.or_eq_true, Bool.and_eq_false_iff, Bool.or_eq_false_iff, Bool.not_eq_true', Bool.not_eq_false', beq_iff_eq, bne_iff_ne, ne_eq, Decidable.not_not] at hc9
        have hh := head_next hy hc9
        rw [hh] at H hfl
        refine CW.skip ?_
        refine thenE_norm (h27 _ _ ?_); clear h27; try clear K27
        refine CW.seq (fun K29 h29 => ?_)
        refine CW.region ?_
        refine r_move rfl ?_
        refine r_call rfl Try.call21 (by simp only [List.map_cons, List.map_nil, List.map_toArray, List.toList_toArray, upd_get, ev, Nat.reduceEqDiff, ↓reduceIte] <;> rfl) (Next_c _ (by exact SH.rsO H (i := 1) rfl) (by first | omega | (simp only [List.length_append, List.length_cons, List.length_nil]; omega) | (simp; omega))) ?_
        rintro _ w27_1 ⟨v27_1, g27_1, rfl, K⟩
        refine ⟨_, rfl, ?_⟩
        replace H := SH.call H K
        clear K
        try dsimp only [replC, List.cons_append, List.nil_append, List.append_nil, Value.cells, List.set_cons_zero, List.set_cons_succ] at H
        dsimp only [List.headD_cons, List.tail_cons, List.isEmpty_cons] at H ⊢
        refine r_move rfl ?_
        refine r_extract rfl (by simp only [upd_get, ev, Nat.reduceEqDiff, ↓reduceIte] <;> rfl) (by simp only [List.getElem?_toArray, List.getElem?_cons_zero, List.getElem?_cons_succ] <;> rfl) ?_
        refine r_extract rfl (by simp only [upd_get, ev, Nat.reduceEqDiff, ↓reduceIte] <;> rfl) (by simp only [List.getElem?_toArray, List.getElem?_cons_zero, List.getElem?_cons_succ] <;> rfl) ?_
        refine r_extract rfl (by simp only [upd_get, ev, Nat.reduceEqDiff, ↓reduceIte] <;> rfl) (by simp only [List.getElem?_toArray, List.getElem?_cons_zero, List.getElem?_cons_succ] <;> rfl) ?_
        refine r_assign rfl ?_
        refine r_assign rfl ?_
        refine r_assign rfl ?_
        refine LW.nil ?_
        refine thenE_norm ?_
        refine cut (K := K29) [6, 12, 13, 14, 15, 16] (fun σ => ?_)
        simp only [setL, keepE, upd_get, ev, Nat.reduceEqDiff, ↓reduceIte]
        refine h29 _ _ ?_; clear h29; try clear K29
        refine CW.seq (fun K30 h30 => ?_)
        refine CW.seq (fun K31 h31 => ?_)
        refine CW.region ?_
        refine r_move rfl ?_
        refine r_not rfl rfl ?_
        refine r_move rfl ?_
        refine LW.known (t := 103) (c := false) rfl (by first | rfl | (simp only [decide_eq_true_eq, decide_eq_false_iff_not, Bool.and_eq_true, Bool.or_eq_true, Bool.and_eq_false_iff, Bool.or_eq_false_iff, Bool.not_eq_true', Bool.not_eq_false', beq_iff_eq, bne_iff_ne]; omega) | simp_all) (fun hg28_3 => ?_)
        refine LW.want rfl rfl hg28_3 ?_
        refine r_move rfl ?_
        refine LW.want rfl rfl hg28_3 ?_
        refine r_move rfl ?_
        refine LW.want rfl rfl hg28_3 ?_
        refine r_move rfl ?_
        refine LW.want rfl rfl hg28_3 ?_
        refine r_indexAddrV rfl Try.underlying22 (by simp only [upd_get, ev, Nat.reduceEqDiff, ↓reduceIte] <;> rfl) rfl (by first | assumption | exact SH.rsR H (by repeat first | exact At.here | apply At.there) | exact SH.rsO H (by repeat first | exact At.here | apply At.there) | exact Rs.toH (by first | assumption | exact SH.rsR H (by repeat first | exact At.here | apply At.there) | exact SH.rsO H (by repeat first | exact At.here | apply At.there)) (by omega) | exact Rs.toL (by first | assumption | exact SH.rsR H (by repeat first | exact At.here | apply At.there) | exact SH.rsO H (by repeat first | exact At.here | apply At.there)) (by omega) | exact Rs.toLH (by first | assumption | exact SH.rsR H (by repeat first | exact At.here | apply At.there) | exact SH.rsO H (by repeat first | exact At.here | apply At.there)) (by omega) (by omega)) (by exact Try.sizeOf3) (by omega) (by omega) ?_
        refine LW.want rfl rfl hg28_3 ?_
        refine r_load rfl Try.isAgg3 rfl (Rs.cell0 (by exact SH.rsO H (i := 0) rfl) hy rfl) ?_
        refine LW.want rfl rfl hg28_3 ?_
        refine r_neq rfl rfl rfl ?_
        refine r_pickF rfl rfl hg28_3 ?_
        refine LW.nil ?_
        refine thenE_norm ?_
        refine cut (K := K31) [6, 12, 13, 15, 110] (fun σ => ?_)
        simp only [setL, keepE, upd_get, ev, Nat.reduceEqDiff, ↓reduceIte]
        refine h31 _ _ ?_; clear h31; try clear K31
        refine CW.condF rfl (by simp) ?_
        refine CW.skip ?_
        refine thenE_norm (h30 _ _ ?_); clear h30; try clear K30
        refine CW.region ?_
        refine r_move rfl ?_
        refine r_assign rfl ?_
        refine LW.nil ?_
        refine blockE_norm ?_
        refine thenE_norm (h26 _ _ ?_); clear h26; try clear K26
        refine CW.region ?_
        refine r_move rfl ?_
        refine r_add rfl rfl rfl (wr_i64 (by omega) (by omega)) ?_
        refine r_assign rfl ?_
        refine LW.nil ?_
        refine thenE_norm ⟨rfl, ?_⟩
        first
          | exact ⟨_, by omega, k + 1, _, _, rfl, by omega, rfl, by rw [← head_skip hy]; exact H⟩
          | exact ⟨_, by omega, k + 1, _, _, rfl, by omega, rfl, (SH.sel H [0, 2] (by decide) (by rfl))⟩
    · try simp only [decide_eq_true_eq, decide_eq_false_iff_not, Bool.and_eq_true, Bool.or_eq_true, Bool.and_eq_false_iff, Bool.or_eq_false_iff, Bool.not_eq_true', Bool.not_eq_false', beq_iff_eq, bne_iff_ne, ne_eq, Decidable.not_not] at hc8
      refine CW.exit (thenE_exit (thenE_exit (blockE_hit ?_)))
      refine thenE_norm (h22 _ _ ?_); clear h22; try clear K22
      refine CW.seq (fun K32 h32 => ?_)
      obtain rfl : k = xs.length := by omega
      rw [List.drop_length] at H
      dsimp only [List.filter_nil] at H
      refine CW.region ?_
      refine r_move rfl ?_
      refine r_call rfl Try.call21 (by simp only [List.map_cons, List.map_nil, List.map_toArray, List.toList_toArray, upd_get, ev, Nat.reduceEqDiff, ↓reduceIte] <;> rfl) (Next_c _ (by exact SH.rsO H (i := 1) rfl) (by first | omega | (simp only [List.length_append, List.length_cons, List.length_nil]; omega) | (simp; omega))) ?_
      rintro _ w31_1 ⟨v31_1, g31_1, rfl, K⟩
      refine ⟨_, rfl, ?_⟩
      replace H := SH.call H K
      clear K
      try dsimp only [replC, List.cons_append, List.nil_append, List.append_nil, Value.cells, List.set_cons_zero, List.set_cons_succ] at H
      refine r_move rfl ?_
      refine r_extract rfl (by simp only [upd_get, ev, Nat.reduceEqDiff, ↓reduceIte] <;> rfl) (by simp only [List.getElem?_toArray, List.getElem?_cons_zero, List.getElem?_cons_succ] <;> rfl) ?_
      refine r_extract rfl (by simp only [upd_get, ev, Nat.reduceEqDiff, ↓reduceIte] <;> rfl) (by simp only [List.getElem?_toArray, List.getElem?_cons_zero, List.getElem?_cons_succ] <;> rfl) ?_
      refine r_extract rfl (by simp only [upd_get, ev, Nat.reduceEqDiff, ↓reduceIte] <;> rfl) (by simp only [List.getElem?_toArray, List.getElem?_cons_zero, List.getElem?_cons_succ] <;> rfl) ?_
      refine r_assign rfl ?_
      refine r_assign rfl ?_
      refine r_assign rfl ?_
      refine LW.nil ?_
      refine thenE_norm ?_
      refine cut (K := K32) [19] (fun σ => ?_)
      simp only [setL, keepE, upd_get, ev, Nat.reduceEqDiff, ↓reduceIte]
      refine h32 _ _ ?_; clear h32; try clear K32
      refine CW.seq (fun K33 h33 => ?_)
      refine CW.region ?_
      refine r_move rfl ?_
      refine r_not rfl rfl ?_
      refine r_move rfl ?_
      refine LW.known (t := 120) (c := true) rfl (by first | rfl | (simp only [decide_eq_true_eq, decide_eq_false_iff_not, Bool.and_eq_true, Bool.or_eq_true, Bool.and_eq_false_iff, Bool.or_eq_false_iff, Bool.not_eq_true', Bool.not_eq_false', beq_iff_eq, bne_iff_ne]; omega) | simp_all) (fun hg32_3 => ?_)
      refine LW.want rfl rfl hg32_3 ?_
      refine r_call rfl Try.call14 (by simp only [List.map_cons, List.map_nil, List.map_toArray, List.toList_toArray, upd_get, ev, Nat.reduceEqDiff, ↓reduceIte] <;> rfl) (awake7_c _) ?_
      rintro _ w32_3 ⟨rfl, X⟩
      refine ⟨_, rfl, ?_⟩
      replace H := SH.same H X
      clear X
      refine r_pickT rfl rfl hg32_3 ?_
      refine r_assign rfl ?_
      refine LW.nil ?_
      refine thenE_norm (h33 _ _ ?_); clear h33; try clear K33
      refine CW.ret (ret1 Try.results5 (by simp only [upd_get, ev, Nat.reduceEqDiff, ↓reduceIte]; rfl) ?_)
      exact ⟨rfl, H.ext⟩
end Go.Proofs.Ytaggdlbjgjagbaa
