/-
  The walks of layer 6's functions, the seventh part: open.
-/
import Derived.Test.YtcmnhneigojpoaaVSsF
namespace Go.Proofs.Ytcmnhneigojpoaa
set_option linter.unusedSimpArgs false
set_option linter.unusedVariables false
set_option maxRecDepth 20000
open Go.V Go.RowKit Go.ChangeShapes Go.WideShapes

/-- What sessions are behind an opening, and the code. -/
def openM (l : List Ses) (n num now : Int) : List Ses × Int :=
  if isCl n = false ∨ num < 1 ∨ 2305843009213693952 < num ∨ now < 0 ∨ 2305843009213693952 < now ∨ ((findS l n).2 = false ∧ hasN l num = true) ∨ ((findS l n).2 = true ∧ (findS l n).1.num ≠ num ∧ hasN l num = true) then ([], 1) else
  if (findS l n).2 = true then ([], 7) else
  if 5 ≤ l.length then ([], 5) else (l.take (atS l n) ++ [⟨n, num, now⟩] ++ l.drop (atS l n), 0)
def badO (n num now : Int) : Prop := (((isCl n = false ∨ num < 1) ∨ 2305843009213693952 < num) ∨ now < 0) ∨ 2305843009213693952 < now
def goodO (n num now : Int) : Prop := (((isCl n = true ∧ ¬num < 1) ∧ ¬2305843009213693952 < num) ∧ ¬now < 0) ∧ ¬2305843009213693952 < now
theorem badO_not {n num now : Int} (h : ¬ badO n num now) : goodO n num now := by
  unfold badO at h
  unfold goodO
  simp only [not_or, Bool.not_eq_false] at h
  exact h
theorem open_bad {l : List Ses} {n num now : Int} (h : badO n num now) : openM l n num now = ([], 1) := by
  rw [openM, if_pos]
  unfold badO at h
  rcases h with (((h | h) | h) | h) | h
  · exact .inl h
  · exact .inr (.inl h)
  · exact .inr (.inr (.inl h))
  · exact .inr (.inr (.inr (.inl h)))
  · exact .inr (.inr (.inr (.inr (.inl h))))
theorem open_dupN {l : List Ses} {n num now : Int} (h1 : (findS l n).2 = false) (h2 : hasN l num = true) : openM l n num now = ([], 1) := by
  rw [openM, if_pos (.inr (.inr (.inr (.inr (.inr (.inl ⟨h1, h2⟩))))))]
theorem open_dupY {l : List Ses} {n num now : Int} (h1 : (findS l n).2 = true) (h3 : (findS l n).1.num ≠ num) (h2 : hasN l num = true) : openM l n num now = ([], 1) := by
  rw [openM, if_pos (.inr (.inr (.inr (.inr (.inr (.inr ⟨h1, h3, h2⟩))))))]
theorem open_neg {l : List Ses} {n num now : Int} (h : goodO n num now) (h1 : (findS l n).2 = false → hasN l num = false) (h2 : (findS l n).2 = true → (findS l n).1.num = num ∨ hasN l num = false) : ¬ (isCl n = false ∨ num < 1 ∨ 2305843009213693952 < num ∨ now < 0 ∨ 2305843009213693952 < now ∨ ((findS l n).2 = false ∧ hasN l num = true) ∨ ((findS l n).2 = true ∧ (findS l n).1.num ≠ num ∧ hasN l num = true)) := by
  obtain ⟨⟨⟨⟨g1, g2⟩, g3⟩, g4⟩, g5⟩ := h
  rintro (h | h | h | h | h | ⟨h, k⟩ | ⟨h, m, k⟩)
  · rw [g1] at h; cases h
  · exact g2 h
  · exact g3 h
  · exact g4 h
  · exact g5 h
  · rw [h1 h] at k; cases k
  · rcases h2 h with h2 | h2
    · exact m h2
    · rw [h2] at k; cases k
theorem open_twice {l : List Ses} {n num now : Int} (h : goodO n num now) (h1 : (findS l n).2 = true) (h2 : (findS l n).1.num = num ∨ hasN l num = false) : openM l n num now = ([], 7) := by
  rw [openM, if_neg (open_neg h (fun h => by rw [h1] at h; cases h) (fun _ => h2)), if_pos h1]
theorem open_full {l : List Ses} {n num now : Int} (h : goodO n num now) (h1 : (findS l n).2 = false) (h2 : hasN l num = false) (h3 : 5 ≤ l.length) : openM l n num now = ([], 5) := by
  rw [openM, if_neg (open_neg h (fun _ => h2) (fun h => by rw [h1] at h; cases h)), if_neg (by rw [h1]; simp), if_pos h3]
theorem open_ok {l : List Ses} {n num now : Int} (h : goodO n num now) (h1 : (findS l n).2 = false) (h2 : hasN l num = false) (h3 : ¬ 5 ≤ l.length) : openM l n num now = (l.take (atS l n) ++ [⟨n, num, now⟩] ++ l.drop (atS l n), 0) := by
  rw [openM, if_neg (open_neg h (fun _ => h2) (fun h => by rw [h1] at h; cases h)), if_neg (by rw [h1]; simp), if_neg h3]
theorem atS_le (l : List Ses) (n : Int) : atS l n ≤ l.length := lowB_le _ _
set_option maxHeartbeats 4000000 in
theorem Open_c {F : Nat → Prop} {v : Value} {l : List Ses} (n num now : Int) (w : World) (hv : Rs F w v l) (hn : l.length ≤ 1000000) (hup : UpS l) :
    Calls Try.prog 29 #[v, .int .i64 n, .int .i64 num, .int .i64 now] w fun e w' => ∃ v' g', e = .returned (.tuple #[v', .int .i64 (openM l n num now).2]) ∧ SH Non Non w w' [.O 52 v' (openM l n num now).1 g'] := by
  have H := (SH.start w).arg hv
  have h63 := hv.len63
  have hal := atS_le l n
  refine calls_of_CW Try.func29 rfl Try.ntmps29 (Nat.le_of_ble_eq_true rfl) ?_
  simp only [argE, argFrom, Nat.reduceAdd]
  refine CW.seq (fun K1 h1 => ?_)
  refine CW.region ?_
  refine r_assign rfl ?_
  refine r_assign rfl ?_
  refine LW.nil ?_
  refine thenE_norm (h1 _ _ ?_); clear h1; try clear K1
  refine CW.seq (fun K2 h2 => ?_)
  refine CW.region ?_
  refine r_move rfl ?_
  refine r_move rfl ?_
  refine r_call rfl Try.call43 (by simp only [List.map_cons, List.map_nil, List.map_toArray, List.toList_toArray, upd_get, ev, Nat.reduceEqDiff, ↓reduceIte] <;> rfl) (place_c _ _ (by first | assumption | exact SH.rsR H (by (repeat first | exact At.here | apply At.there); done) | exact SH.rsO H (by (repeat first | exact At.here | apply At.there); done) | exact Rs.toH (by first | assumption | exact SH.rsR H (by (repeat first | exact At.here | apply At.there); done) | exact SH.rsO H (by (repeat first | exact At.here | apply At.there); done)) (by omega) | exact Rs.toL (by first | assumption | exact SH.rsR H (by (repeat first | exact At.here | apply At.there); done) | exact SH.rsO H (by (repeat first | exact At.here | apply At.there); done)) (by omega) | exact Rs.toLH (by first | assumption | exact SH.rsR H (by (repeat first | exact At.here | apply At.there); done) | exact SH.rsO H (by (repeat first | exact At.here | apply At.there); done)) (by omega) (by omega) | exact (Rs.nil : Rs Non _ _ _)) (by first | omega | (simp only [List.length_append, List.length_cons, List.length_nil]; omega) | (simp; omega)) hup) ?_
  rintro _ w1_2 ⟨rfl, X⟩
  refine ⟨_, rfl, ?_⟩
  replace H := SH.same H X
  clear X
  refine r_move rfl ?_
  refine r_extract rfl (by simp only [upd_get, ev, Nat.reduceEqDiff, ↓reduceIte] <;> rfl) (by simp only [List.getElem?_toArray, List.getElem?_cons_zero, List.getElem?_cons_succ] <;> rfl) ?_
  refine r_extract rfl (by simp only [upd_get, ev, Nat.reduceEqDiff, ↓reduceIte] <;> rfl) (by simp only [List.getElem?_toArray, List.getElem?_cons_zero, List.getElem?_cons_succ] <;> rfl) ?_
  refine r_assign rfl ?_
  refine r_assign rfl ?_
  refine LW.nil ?_
  refine thenE_norm ?_
  refine cut (K := K2) [0, 1, 2, 3, 10, 11] (fun σ => ?_)
  simp only [setL, keepE, upd_get, ev, Nat.reduceEqDiff, ↓reduceIte]
  refine h2 _ _ ?_; clear h2; try clear K2
  refine CW.seq (fun K3 h3 => ?_)
  refine CW.seq (fun K4 h4 => ?_)
  rcases findS_place (n := n) hup with ⟨hin, s, hs, hc, hf⟩ | ⟨hin, hf, -⟩
  · rw [hin]
    have hsl := lt_of_get hs
    refine CW.region ?_
    refine r_move rfl ?_
    refine r_call rfl Try.call45 (by simp only [List.map_cons, List.map_nil, List.map_toArray, List.toList_toArray, upd_get, ev, Nat.reduceEqDiff, ↓reduceIte] <;> rfl) (isClient_c _ _) ?_
    rintro _ _ ⟨rfl, rfl⟩
    refine ⟨_, rfl, ?_⟩
    refine r_not rfl rfl ?_
    refine r_move rfl ?_
    refine' LW.grpOr (n := 3) (ts := [0, 1, 2, 3, 10, 11, 25, 29, 33, 37, 40, 46, 48, 57]) (d := 24) (tj := 21) rfl (fun hg2_4 => ?_) (fun hg2_4 => ?_) (fun σ => ?_)
    rotate_left
    · simp only [List.take_succ_cons, List.take_zero]
      have hg2_4P := hg2_4
      try simp only [decide_eq_true_eq, decide_eq_false_iff_not, Bool.and_eq_true, Bool.or_eq_true, Bool.and_eq_false_iff, Bool.or_eq_false_iff, Bool.not_eq_true', Bool.not_eq_false', beq_iff_eq, bne_iff_ne] at hg2_4P
      refine LW.want rfl rfl hg2_4 ?_
      refine r_move rfl ?_
      refine LW.want rfl rfl hg2_4 ?_
      refine r_lss rfl rfl rfl ?_
      refine r_pickF rfl rfl hg2_4 ?_
      refine LW.nil (thenE_norm ⟨rfl, rfl, rfl⟩)
    · simp only [List.take_succ_cons, List.take_zero]
      refine LW.skip rfl (fun _ e => by cases e; decide) rfl hg2_4 ?_
      refine LW.skip rfl (fun _ e => by cases e; decide) rfl hg2_4 ?_
      refine r_pickT rfl rfl hg2_4 ?_
      refine LW.nil (thenE_norm ⟨rfl, rfl, rfl⟩)
    simp only [setL, keepE, upd_get, ev, Nat.reduceEqDiff, ↓reduceIte]; simp only [List.drop_succ_cons, List.drop_zero]
    refine r_move rfl ?_
    refine' LW.grpOr (n := 3) (ts := [0, 1, 2, 3, 10, 11, 29, 33, 37, 40, 46, 48, 57]) (d := 28) (tj := 25) rfl (fun hg2_8 => ?_) (fun hg2_8 => ?_) (fun σ => ?_)
    rotate_left
    · simp only [List.take_succ_cons, List.take_zero]
      have hg2_8P := hg2_8
      try simp only [decide_eq_true_eq, decide_eq_false_iff_not, Bool.and_eq_true, Bool.or_eq_true, Bool.and_eq_false_iff, Bool.or_eq_false_iff, Bool.not_eq_true', Bool.not_eq_false', beq_iff_eq, bne_iff_ne] at hg2_8P
      refine LW.want rfl rfl hg2_8 ?_
      refine r_move rfl ?_
      refine LW.want rfl rfl hg2_8 ?_
      refine r_gtr rfl rfl rfl ?_
      refine r_pickF rfl rfl hg2_8 ?_
      refine LW.nil (thenE_norm ⟨rfl, rfl, rfl⟩)
    · simp only [List.take_succ_cons, List.take_zero]
      refine LW.skip rfl (fun _ e => by cases e; decide) rfl hg2_8 ?_
      refine LW.skip rfl (fun _ e => by cases e; decide) rfl hg2_8 ?_
      refine r_pickT rfl rfl hg2_8 ?_
      refine LW.nil (thenE_norm ⟨rfl, rfl, rfl⟩)
    simp only [setL, keepE, upd_get, ev, Nat.reduceEqDiff, ↓reduceIte]; simp only [List.drop_succ_cons, List.drop_zero]
    refine r_move rfl ?_
    refine' LW.grpOr (n := 3) (ts := [0, 1, 2, 3, 10, 11, 33, 37, 40, 46, 48, 57]) (d := 32) (tj := 29) rfl (fun hg2_12 => ?_) (fun hg2_12 => ?_) (fun σ => ?_)
    rotate_left
    · simp only [List.take_succ_cons, List.take_zero]
      have hg2_12P := hg2_12
      try simp only [decide_eq_true_eq, decide_eq_false_iff_not, Bool.and_eq_true, Bool.or_eq_true, Bool.and_eq_false_iff, Bool.or_eq_false_iff, Bool.not_eq_true', Bool.not_eq_false', beq_iff_eq, bne_iff_ne] at hg2_12P
      refine LW.want rfl rfl hg2_12 ?_
      refine r_move rfl ?_
      refine LW.want rfl rfl hg2_12 ?_
      refine r_lss rfl rfl rfl ?_
      refine r_pickF rfl rfl hg2_12 ?_
      refine LW.nil (thenE_norm ⟨rfl, rfl, rfl⟩)
    · simp only [List.take_succ_cons, List.take_zero]
      refine LW.skip rfl (fun _ e => by cases e; decide) rfl hg2_12 ?_
      refine LW.skip rfl (fun _ e => by cases e; decide) rfl hg2_12 ?_
      refine r_pickT rfl rfl hg2_12 ?_
      refine LW.nil (thenE_norm ⟨rfl, rfl, rfl⟩)
    simp only [setL, keepE, upd_get, ev, Nat.reduceEqDiff, ↓reduceIte]; simp only [List.drop_succ_cons, List.drop_zero]
    refine r_move rfl ?_
    refine' LW.grpOr (n := 3) (ts := [0, 1, 2, 3, 10, 11, 37, 40, 46, 48, 57]) (d := 36) (tj := 33) rfl (fun hg2_16 => ?_) (fun hg2_16 => ?_) (fun σ => ?_)
    rotate_left
    · simp only [List.take_succ_cons, List.take_zero]
      have hg2_16P := hg2_16
      try simp only [decide_eq_true_eq, decide_eq_false_iff_not, Bool.and_eq_true, Bool.or_eq_true, Bool.and_eq_false_iff, Bool.or_eq_false_iff, Bool.not_eq_true', Bool.not_eq_false', beq_iff_eq, bne_iff_ne] at hg2_16P
      refine LW.want rfl rfl hg2_16 ?_
      refine r_move rfl ?_
      refine LW.want rfl rfl hg2_16 ?_
      refine r_gtr rfl rfl rfl ?_
      refine r_pickF rfl rfl hg2_16 ?_
      refine LW.nil (thenE_norm ⟨rfl, rfl, rfl⟩)
    · simp only [List.take_succ_cons, List.take_zero]
      refine LW.skip rfl (fun _ e => by cases e; decide) rfl hg2_16 ?_
      refine LW.skip rfl (fun _ e => by cases e; decide) rfl hg2_16 ?_
      refine r_pickT rfl rfl hg2_16 ?_
      refine LW.nil (thenE_norm ⟨rfl, rfl, rfl⟩)
    simp only [setL, keepE, upd_get, ev, Nat.reduceEqDiff, ↓reduceIte]; simp only [List.drop_succ_cons, List.drop_zero]
    refine r_move rfl ?_
    refine LW.splitB (t := 37) rfl (fun hg2_20 => ?_) (fun hg2_20 => ?_)
    · have hg2_20P := hg2_20
      try simp only [decide_eq_true_eq, decide_eq_false_iff_not, Bool.and_eq_true, Bool.or_eq_true, Bool.and_eq_false_iff, Bool.or_eq_false_iff, Bool.not_eq_true', Bool.not_eq_false', beq_iff_eq, bne_iff_ne] at hg2_20P
      refine LW.skip rfl (fun _ e => by cases e; decide) rfl hg2_20 ?_
      refine LW.skip rfl (fun _ e => by cases e; decide) rfl hg2_20 ?_
      refine LW.skip rfl (fun _ e => by cases e; decide) rfl hg2_20 ?_
      refine LW.skipU rfl (fun _ e => by cases e; decide) rfl ?_
      refine LW.skipU rfl (fun _ e => by cases e; decide) rfl ?_
      refine LW.skipU rfl (fun _ e => by cases e; decide) rfl ?_
      refine LW.skip rfl (fun _ e => by cases e; decide) rfl hg2_20 ?_
      refine r_pickT rfl rfl hg2_20 ?_
      refine r_move rfl ?_
      refine LW.splitB (t := 46) rfl (fun hg2_29 => ?_) (fun hg2_29 => ?_)
      · have hg2_29P := hg2_29
        try simp only [decide_eq_true_eq, decide_eq_false_iff_not, Bool.and_eq_true, Bool.or_eq_true, Bool.and_eq_false_iff, Bool.or_eq_false_iff, Bool.not_eq_true', Bool.not_eq_false', beq_iff_eq, bne_iff_ne] at hg2_29P
        refine LW.skip rfl (fun _ e => by cases e; decide) rfl hg2_29 ?_
        refine LW.skip rfl (fun _ e => by cases e; decide) rfl hg2_29 ?_
        refine LW.skipU rfl (fun _ e => by cases e; decide) rfl ?_
        refine LW.skipU rfl (fun _ e => by cases e; decide) rfl ?_
        refine LW.skipU rfl (fun _ e => by cases e; decide) rfl ?_
        refine LW.skipU rfl (fun _ e => by cases e; decide) rfl ?_
        refine LW.skipU rfl (fun _ e => by cases e; decide) rfl ?_
        refine LW.skipU rfl (fun _ e => by cases e; decide) rfl ?_
        refine LW.skipU rfl (fun _ e => by cases e; decide) rfl ?_
        refine LW.skip rfl (fun _ e => by cases e; decide) rfl hg2_29 ?_
        refine LW.skip rfl (fun _ e => by cases e; decide) rfl hg2_29 ?_
        refine LW.skipU rfl (fun _ e => by cases e; decide) rfl ?_
        refine LW.skipU rfl (fun _ e => by cases e; decide) rfl ?_
        refine LW.skipU rfl (fun _ e => by cases e; decide) rfl ?_
        refine LW.skip rfl (fun _ e => by cases e; decide) rfl hg2_29 ?_
        refine r_pickT rfl rfl hg2_29 ?_
        refine LW.nil ?_
        refine thenE_norm (h4 _ _ ?_); clear h4; try clear K4
        refine CW.cond rfl (fun hc1 => ?_) (fun hc1 => ?_)
        · try simp only [decide_eq_true_eq, decide_eq_false_iff_not, Bool.and_eq_true, Bool.or_eq_true, Bool.and_eq_false_iff, Bool.or_eq_false_iff, Bool.not_eq_true', Bool.not_eq_false', beq_iff_eq, bne_iff_ne, ne_eq, Decidable.not_not] at hc1
          refine CW.seq (fun K5 h5 => ?_)
          refine CW.region ?_
          refine r_assign rfl ?_
          refine r_assign rfl ?_
          refine LW.nil ?_
          refine thenE_norm (h5 _ _ ?_); clear h5; try clear K5
          refine CW.ret (thenE_ret (ret2 Try.results29 (by simp only [upd_get, ev, Nat.reduceEqDiff, ↓reduceIte]; rfl) (by simp only [upd_get, ev, Nat.reduceEqDiff, ↓reduceIte]; rfl) ?_))
          first
            | contradiction
            | (rw [open_bad hg2_20P]; exact ⟨_, none, rfl, SH.give (H.addO (α := Ses) 52) (by repeat first | exact List.Sublist.refl _ | exact List.nil_sublist _ | apply List.Sublist.cons_cons | apply List.Sublist.cons) ⟨trivial, trivial⟩⟩)
            | (rw [open_dupN (by rw [hf]) hg2_29]; exact ⟨_, none, rfl, SH.give (H.addO (α := Ses) 52) (by repeat first | exact List.Sublist.refl _ | exact List.nil_sublist _ | apply List.Sublist.cons_cons | apply List.Sublist.cons) ⟨trivial, trivial⟩⟩)
            | (rw [open_dupY (by rw [hf]) (by rw [hf]; exact hg2_40P.2) hc1]; exact ⟨_, none, rfl, SH.give (H.addO (α := Ses) 52) (by repeat first | exact List.Sublist.refl _ | exact List.nil_sublist _ | apply List.Sublist.cons_cons | apply List.Sublist.cons) ⟨trivial, trivial⟩⟩)
        · try simp only [decide_eq_true_eq, decide_eq_false_iff_not, Bool.and_eq_true, Bool.or_eq_true, Bool.and_eq_false_iff, Bool.or_eq_false_iff, Bool.not_eq_true', Bool.not_eq_false', beq_iff_eq, bne_iff_ne, ne_eq, Decidable.not_not] at hc1
          refine CW.skip ?_
          refine thenE_norm (h3 _ _ ?_); clear h3; try clear K3
          refine CW.seq (fun K6 h6 => ?_)
          refine CW.seq (fun K7 h7 => ?_)
          refine CW.region ?_
          refine r_move rfl ?_
          refine LW.nil ?_
          refine thenE_norm (h7 _ _ ?_); clear h7; try clear K7
          refine CW.cond rfl (fun hc2 => ?_) (fun hc2 => ?_)
          · try simp only [decide_eq_true_eq, decide_eq_false_iff_not, Bool.and_eq_true, Bool.or_eq_true, Bool.and_eq_false_iff, Bool.or_eq_false_iff, Bool.not_eq_true', Bool.not_eq_false', beq_iff_eq, bne_iff_ne, ne_eq, Decidable.not_not] at hc2
            refine CW.seq (fun K8 h8 => ?_)
            refine CW.region ?_
            refine r_assign rfl ?_
            refine r_assign rfl ?_
            refine LW.nil ?_
            refine thenE_norm (h8 _ _ ?_); clear h8; try clear K8
            refine CW.ret (thenE_ret (ret2 Try.results29 (by simp only [upd_get, ev, Nat.reduceEqDiff, ↓reduceIte]; rfl) (by simp only [upd_get, ev, Nat.reduceEqDiff, ↓reduceIte]; rfl) ?_))
            first
              | contradiction
              | (rw [open_twice hg2_20P (by rw [hf]) (.inr hc1)]; exact ⟨_, none, rfl, SH.give (H.addO (α := Ses) 52) (by repeat first | exact List.Sublist.refl _ | exact List.nil_sublist _ | apply List.Sublist.cons_cons | apply List.Sublist.cons) ⟨trivial, trivial⟩⟩)
              | (rw [open_twice hg2_20P (by rw [hf]) (.inl (by rw [hf]; simpa using hg2_40P))]; exact ⟨_, none, rfl, SH.give (H.addO (α := Ses) 52) (by repeat first | exact List.Sublist.refl _ | exact List.nil_sublist _ | apply List.Sublist.cons_cons | apply List.Sublist.cons) ⟨trivial, trivial⟩⟩)
          · try simp only [decide_eq_true_eq, decide_eq_false_iff_not, Bool.and_eq_true, Bool.or_eq_true, Bool.and_eq_false_iff, Bool.or_eq_false_iff, Bool.not_eq_true', Bool.not_eq_false', beq_iff_eq, bne_iff_ne, ne_eq, Decidable.not_not] at hc2
            refine CW.skip ?_
            refine thenE_norm (h6 _ _ ?_); clear h6; try clear K6
            refine CW.seq (fun K9 h9 => ?_)
            refine CW.seq (fun K10 h10 => ?_)
            refine CW.region ?_
            refine r_move rfl ?_
            first
              | refine r_lenV rfl Try.underlying48 (by simp only [upd_get, ev, Nat.reduceEqDiff, ↓reduceIte] <;> rfl) (by first | assumption | exact SH.rsR H (by (repeat first | exact At.here | apply At.there); done) | exact SH.rsO H (by (repeat first | exact At.here | apply At.there); done) | exact Rs.toH (by first | assumption | exact SH.rsR H (by (repeat first | exact At.here | apply At.there); done) | exact SH.rsO H (by (repeat first | exact At.here | apply At.there); done)) (by omega) | exact Rs.toL (by first | assumption | exact SH.rsR H (by (repeat first | exact At.here | apply At.there); done) | exact SH.rsO H (by (repeat first | exact At.here | apply At.there); done)) (by omega) | exact Rs.toLH (by first | assumption | exact SH.rsR H (by (repeat first | exact At.here | apply At.there); done) | exact SH.rsO H (by (repeat first | exact At.here | apply At.there); done)) (by omega) (by omega) | exact (Rs.nil : Rs Non _ _ _)) ?_
              | refine r_len rfl Try.underlying48 rfl ?_
            refine r_geq rfl rfl rfl ?_
            refine LW.nil ?_
            refine thenE_norm ?_
            refine cut (K := K10) [0, 1, 2, 3, 10, 66] (fun σ => ?_)
            simp only [setL, keepE, upd_get, ev, Nat.reduceEqDiff, ↓reduceIte]
            refine h10 _ _ ?_; clear h10; try clear K10
            refine CW.cond rfl (fun hc3 => ?_) (fun hc3 => ?_)
            · try simp only [decide_eq_true_eq, decide_eq_false_iff_not, Bool.and_eq_true, Bool.or_eq_true, Bool.and_eq_false_iff, Bool.or_eq_false_iff, Bool.not_eq_true', Bool.not_eq_false', beq_iff_eq, bne_iff_ne, ne_eq, Decidable.not_not] at hc3
              refine CW.seq (fun K11 h11 => ?_)
              refine CW.region ?_
              refine r_assign rfl ?_
              refine r_assign rfl ?_
              refine LW.nil ?_
              refine thenE_norm (h11 _ _ ?_); clear h11; try clear K11
              refine CW.ret (thenE_ret (ret2 Try.results29 (by simp only [upd_get, ev, Nat.reduceEqDiff, ↓reduceIte]; rfl) (by simp only [upd_get, ev, Nat.reduceEqDiff, ↓reduceIte]; rfl) ?_))
              first
                | contradiction
                | (rw [open_full hg2_20P (by rw [hf]) (by assumption) (by omega)]; exact ⟨_, none, rfl, SH.give (H.addO (α := Ses) 52) (by repeat first | exact List.Sublist.refl _ | exact List.nil_sublist _ | apply List.Sublist.cons_cons | apply List.Sublist.cons) ⟨trivial, trivial⟩⟩)
            · try simp only [decide_eq_true_eq, decide_eq_false_iff_not, Bool.and_eq_true, Bool.or_eq_true, Bool.and_eq_false_iff, Bool.or_eq_false_iff, Bool.not_eq_true', Bool.not_eq_false', beq_iff_eq, bne_iff_ne, ne_eq, Decidable.not_not] at hc3
              refine CW.skip ?_
              refine thenE_norm (h9 _ _ ?_); clear h9; try clear K9
              refine CW.seq (fun K12 h12 => ?_)
              refine CW.region ?_
              refine r_move rfl ?_
              refine r_call rfl Try.call44 (by simp only [List.map_cons, List.map_nil, List.map_toArray, List.toList_toArray, upd_get, ev, Nat.reduceEqDiff, ↓reduceIte] <;> rfl) (CloneS_c _ (by first | assumption | exact SH.rsR H (by (repeat first | exact At.here | apply At.there); done) | exact SH.rsO H (by (repeat first | exact At.here | apply At.there); done) | exact Rs.toH (by first | assumption | exact SH.rsR H (by (repeat first | exact At.here | apply At.there); done) | exact SH.rsO H (by (repeat first | exact At.here | apply At.there); done)) (by omega) | exact Rs.toL (by first | assumption | exact SH.rsR H (by (repeat first | exact At.here | apply At.there); done) | exact SH.rsO H (by (repeat first | exact At.here | apply At.there); done)) (by omega) | exact Rs.toLH (by first | assumption | exact SH.rsR H (by (repeat first | exact At.here | apply At.there); done) | exact SH.rsO H (by (repeat first | exact At.here | apply At.there); done)) (by omega) (by omega) | exact (Rs.nil : Rs Non _ _ _)) (by first | omega | (simp only [List.length_append, List.length_cons, List.length_nil]; omega) | (simp; omega))) ?_
              rintro _ w8_1 ⟨v8_1, g8_1, rfl, K⟩
              refine ⟨_, rfl, ?_⟩
              replace H := SH.call H K
              clear K
              try dsimp only [replC, List.cons_append, List.nil_append, List.append_nil, agg, cellsL, Value.cells, List.toList_toArray, List.set_cons_zero, List.set_cons_succ, spliceL, List.take_succ_cons, List.take_zero, List.drop_succ_cons, List.drop_zero, List.length_cons, List.length_nil, Nat.reduceAdd, Row.cells, Ses.L] at H
              refine r_move rfl ?_
              refine r_move rfl ?_
              refine r_move rfl ?_
              refine r_move rfl ?_
              refine r_buildQ rfl Try.underlying52 Try.zeroValue52 rfl (pl := [(0, 1), (1, 1), (2, 1)]) (by intro w; simp [go_sem]) (qs := [(0, [_]), (1, [_]), (2, [_])]) (cs := [_, _, _]) ⟨rfl, cells_one (by simp only [upd_get, ev, Nat.reduceEqDiff, ↓reduceIte] <;> rfl) (by first | rfl | exact Rs.oneC (by first | assumption | exact SH.rsR H (by (repeat first | exact At.here | apply At.there); done) | exact SH.rsO H (by (repeat first | exact At.here | apply At.there); done) | exact Rs.toH (by first | assumption | exact SH.rsR H (by (repeat first | exact At.here | apply At.there); done) | exact SH.rsO H (by (repeat first | exact At.here | apply At.there); done)) (by omega) | exact Rs.toL (by first | assumption | exact SH.rsR H (by (repeat first | exact At.here | apply At.there); done) | exact SH.rsO H (by (repeat first | exact At.here | apply At.there); done)) (by omega) | exact Rs.toLH (by first | assumption | exact SH.rsR H (by (repeat first | exact At.here | apply At.there); done) | exact SH.rsO H (by (repeat first | exact At.here | apply At.there); done)) (by omega) (by omega) | exact (Rs.nil : Rs Non _ _ _))), rfl, cells_one (by simp only [upd_get, ev, Nat.reduceEqDiff, ↓reduceIte] <;> rfl) (by first | rfl | exact Rs.oneC (by first | assumption | exact SH.rsR H (by (repeat first | exact At.here | apply At.there); done) | exact SH.rsO H (by (repeat first | exact At.here | apply At.there); done) | exact Rs.toH (by first | assumption | exact SH.rsR H (by (repeat first | exact At.here | apply At.there); done) | exact SH.rsO H (by (repeat first | exact At.here | apply At.there); done)) (by omega) | exact Rs.toL (by first | assumption | exact SH.rsR H (by (repeat first | exact At.here | apply At.there); done) | exact SH.rsO H (by (repeat first | exact At.here | apply At.there); done)) (by omega) | exact Rs.toLH (by first | assumption | exact SH.rsR H (by (repeat first | exact At.here | apply At.there); done) | exact SH.rsO H (by (repeat first | exact At.here | apply At.there); done)) (by omega) (by omega) | exact (Rs.nil : Rs Non _ _ _))), rfl, cells_one (by simp only [upd_get, ev, Nat.reduceEqDiff, ↓reduceIte] <;> rfl) (by first | rfl | exact Rs.oneC (by first | assumption | exact SH.rsR H (by (repeat first | exact At.here | apply At.there); done) | exact SH.rsO H (by (repeat first | exact At.here | apply At.there); done) | exact Rs.toH (by first | assumption | exact SH.rsR H (by (repeat first | exact At.here | apply At.there); done) | exact SH.rsO H (by (repeat first | exact At.here | apply At.there); done)) (by omega) | exact Rs.toL (by first | assumption | exact SH.rsR H (by (repeat first | exact At.here | apply At.there); done) | exact SH.rsO H (by (repeat first | exact At.here | apply At.there); done)) (by omega) | exact Rs.toLH (by first | assumption | exact SH.rsR H (by (repeat first | exact At.here | apply At.there); done) | exact SH.rsO H (by (repeat first | exact At.here | apply At.there); done)) (by omega) (by omega) | exact (Rs.nil : Rs Non _ _ _))), trivial⟩ rfl ?_
              refine r_buildSliceA (vs := [_]) rfl Try.underlying48 Try.sizeOf52 Try.zeroValue52 rfl rfl rfl rfl (by simp only [List.map_cons, List.map_nil, List.toList_toArray, numbered, Nat.reduceAdd, upd_get, ev, Nat.reduceEqDiff, ↓reduceIte] <;> rfl) rfl (by intro v hv; simp only [List.mem_cons, List.not_mem_nil, or_false] at hv; rcases hv with rfl <;> rfl) ?_
              intro b8_7 w8_7 hb8_7 hs8_7 hE8_7 hB8_7
              replace H := SH.call H (SH.fromB hE8_7 hb8_7 hs8_7 hB8_7)
              clear hb8_7 hs8_7 hE8_7 hB8_7
              try dsimp only [replC, List.cons_append, List.nil_append, List.append_nil, agg, cellsL, Value.cells, List.toList_toArray, List.set_cons_zero, List.set_cons_succ, spliceL, List.take_succ_cons, List.take_zero, List.drop_succ_cons, List.drop_zero, List.length_cons, List.length_nil, Nat.reduceAdd, Row.cells, Ses.L] at H
              replace H := SH.row (b := b8_7) (xs := ([⟨n, num, now⟩] : List Ses)) (n := 1) (cap := 1) H (by (repeat first | exact At.here | apply At.there); done) (by simp only [flat, List.flatMap_cons, List.flatMap_nil, cellsL, agg, List.append_nil, List.cons_append, List.nil_append, List.toList_toArray, Row.cells, Ses.L] <;> rfl) (by intro x hx; first | rfl | (simp at hx; done) | (simp only [List.mem_cons, List.not_mem_nil, or_false] at hx; rcases hx with rfl <;> first | rfl | exact (by first | rfl | exact Rs.oneC (by first | assumption | exact SH.rsR H (by (repeat first | exact At.here | apply At.there); done) | exact SH.rsO H (by (repeat first | exact At.here | apply At.there); done) | exact Rs.toH (by first | assumption | exact SH.rsR H (by (repeat first | exact At.here | apply At.there); done) | exact SH.rsO H (by (repeat first | exact At.here | apply At.there); done)) (by omega) | exact Rs.toL (by first | assumption | exact SH.rsR H (by (repeat first | exact At.here | apply At.there); done) | exact SH.rsO H (by (repeat first | exact At.here | apply At.there); done)) (by omega) | exact Rs.toLH (by first | assumption | exact SH.rsR H (by (repeat first | exact At.here | apply At.there); done) | exact SH.rsO H (by (repeat first | exact At.here | apply At.there); done)) (by omega) (by omega) | exact (Rs.nil : Rs Non _ _ _)) | (simp only [List.all_cons, List.all_nil, Bool.and_true, Bool.and_eq_true, Row.cells, Ses.L]; (repeat' constructor) <;> first | rfl | exact Rs.oneC (by first | assumption | exact SH.rsR H (by (repeat first | exact At.here | apply At.there); done) | exact SH.rsO H (by (repeat first | exact At.here | apply At.there); done) | exact Rs.toH (by first | assumption | exact SH.rsR H (by (repeat first | exact At.here | apply At.there); done) | exact SH.rsO H (by (repeat first | exact At.here | apply At.there); done)) (by omega) | exact Rs.toL (by first | assumption | exact SH.rsR H (by (repeat first | exact At.here | apply At.there); done) | exact SH.rsO H (by (repeat first | exact At.here | apply At.there); done)) (by omega) | exact Rs.toLH (by first | assumption | exact SH.rsR H (by (repeat first | exact At.here | apply At.there); done) | exact SH.rsO H (by (repeat first | exact At.here | apply At.there); done)) (by omega) (by omega) | exact (Rs.nil : Rs Non _ _ _)))))) (by rfl) rfl (by decide)
              try dsimp only [replC, List.cons_append, List.nil_append, List.append_nil, agg, cellsL, Value.cells, List.toList_toArray, List.set_cons_zero, List.set_cons_succ, spliceL, List.take_succ_cons, List.take_zero, List.drop_succ_cons, List.drop_zero, List.length_cons, List.length_nil, Nat.reduceAdd, Row.cells, Ses.L] at H
              refine r_call rfl Try.call47 (by simp only [List.map_cons, List.map_nil, List.map_toArray, List.toList_toArray, upd_get, ev, Nat.reduceEqDiff, ↓reduceIte] <;> rfl) (InsS_c (y := ⟨n, num, now⟩) (atS l n) _ (SH.ow H (i := 1) rfl) (SH.ow H (i := 2) rfl) (fun b h1 h2 => (SH.val H).apart (i := 1) (j := 2) rfl rfl (by decide) (.inl trivial) b h2 h1) hal (by omega)) ?_
              rintro _ w8_8 ⟨v8_8, g8_8, rfl, K⟩
              refine ⟨_, rfl, ?_⟩
              replace H := SH.updO H (i := 1) rfl K
              clear K
              try dsimp only [replC, List.cons_append, List.nil_append, List.append_nil, agg, cellsL, Value.cells, List.toList_toArray, List.set_cons_zero, List.set_cons_succ, spliceL, List.take_succ_cons, List.take_zero, List.drop_succ_cons, List.drop_zero, List.length_cons, List.length_nil, Nat.reduceAdd, Row.cells, Ses.L] at H
              refine r_assign rfl ?_
              refine r_assign rfl ?_
              refine LW.nil ?_
              refine thenE_norm ?_
              refine cut (K := K12) [8, 9] (fun σ => ?_)
              simp only [setL, keepE, upd_get, ev, Nat.reduceEqDiff, ↓reduceIte]
              refine h12 _ _ ?_; clear h12; try clear K12
              refine CW.ret (ret2 Try.results29 (by simp only [upd_get, ev, Nat.reduceEqDiff, ↓reduceIte]; rfl) (by simp only [upd_get, ev, Nat.reduceEqDiff, ↓reduceIte]; rfl) ?_)
              first
                | contradiction
                | (rw [open_ok hg2_20P (by rw [hf]) (by assumption) (by omega)]; exact ⟨_, _, rfl, (SH.give (SH.sel H [1] (by decide) rfl) (List.Sublist.refl _) (by repeat first | exact trivial | refine ⟨trivial, ?_⟩))⟩)
      · have hg2_29P := hg2_29
        try simp only [decide_eq_true_eq, decide_eq_false_iff_not, Bool.and_eq_true, Bool.or_eq_true, Bool.and_eq_false_iff, Bool.or_eq_false_iff, Bool.not_eq_true', Bool.not_eq_false', beq_iff_eq, bne_iff_ne] at hg2_29P
        refine LW.want rfl rfl hg2_29 ?_
        refine r_move rfl ?_
        refine LW.want rfl rfl hg2_29 ?_
        refine r_move rfl ?_
        refine' LW.grpAnd (n := 8) (ts := [0, 1, 2, 3, 10, 11, 46, 57]) (d := 56) (tj := 48) rfl (fun hg2_31 => ?_) (fun hg2_31 => ?_) (fun σ => ?_)
        rotate_left
        · simp only [List.take_succ_cons, List.take_zero]
          have hg2_31P := hg2_31
          try simp only [decide_eq_true_eq, decide_eq_false_iff_not, Bool.and_eq_true, Bool.or_eq_true, Bool.and_eq_false_iff, Bool.or_eq_false_iff, Bool.not_eq_true', Bool.not_eq_false', beq_iff_eq, bne_iff_ne] at hg2_31P
          refine LW.want rfl rfl hg2_31 ?_
          refine r_move rfl ?_
          refine LW.want rfl rfl hg2_31 ?_
          refine r_move rfl ?_
          refine LW.want rfl rfl hg2_31 ?_
          refine r_indexAddrV rfl Try.underlying48 (by simp only [upd_get, ev, Nat.reduceEqDiff, ↓reduceIte] <;> rfl) rfl (by first | assumption | exact SH.rsR H (by (repeat first | exact At.here | apply At.there); done) | exact SH.rsO H (by (repeat first | exact At.here | apply At.there); done) | exact Rs.toH (by first | assumption | exact SH.rsR H (by (repeat first | exact At.here | apply At.there); done) | exact SH.rsO H (by (repeat first | exact At.here | apply At.there); done)) (by omega) | exact Rs.toL (by first | assumption | exact SH.rsR H (by (repeat first | exact At.here | apply At.there); done) | exact SH.rsO H (by (repeat first | exact At.here | apply At.there); done)) (by omega) | exact Rs.toLH (by first | assumption | exact SH.rsR H (by (repeat first | exact At.here | apply At.there); done) | exact SH.rsO H (by (repeat first | exact At.here | apply At.there); done)) (by omega) (by omega) | exact (Rs.nil : Rs Non _ _ _)) (by exact Try.sizeOf52) (by omega) (by omega) ?_
          refine LW.want rfl rfl hg2_31 ?_
          refine r_fieldAddrO rfl Try.underlying52 rfl Try.sizeOf3 (by decide) (show _ + 1 = _ from rfl) rfl ?_
          refine LW.want rfl rfl hg2_31 ?_
          refine r_load rfl Try.isAgg3 rfl (by first | exact SH.cellB H (by (repeat first | exact At.here | apply At.there); done) (by rfl) | exact SH.cellI H (by (repeat first | exact At.here | apply At.there); done) (by rfl) | exact Rs.cell (by first | assumption | exact SH.rsR H (by (repeat first | exact At.here | apply At.there); done) | exact SH.rsO H (by (repeat first | exact At.here | apply At.there); done) | exact Rs.toH (by first | assumption | exact SH.rsR H (by (repeat first | exact At.here | apply At.there); done) | exact SH.rsO H (by (repeat first | exact At.here | apply At.there); done)) (by omega) | exact Rs.toL (by first | assumption | exact SH.rsR H (by (repeat first | exact At.here | apply At.there); done) | exact SH.rsO H (by (repeat first | exact At.here | apply At.there); done)) (by omega) | exact Rs.toLH (by first | assumption | exact SH.rsR H (by (repeat first | exact At.here | apply At.there); done) | exact SH.rsO H (by (repeat first | exact At.here | apply At.there); done)) (by omega) (by omega) | exact (Rs.nil : Rs Non _ _ _)) (by assumption) (by rfl) | exact Rs.cell0 (by first | assumption | exact SH.rsR H (by (repeat first | exact At.here | apply At.there); done) | exact SH.rsO H (by (repeat first | exact At.here | apply At.there); done) | exact Rs.toH (by first | assumption | exact SH.rsR H (by (repeat first | exact At.here | apply At.there); done) | exact SH.rsO H (by (repeat first | exact At.here | apply At.there); done)) (by omega) | exact Rs.toL (by first | assumption | exact SH.rsR H (by (repeat first | exact At.here | apply At.there); done) | exact SH.rsO H (by (repeat first | exact At.here | apply At.there); done)) (by omega) | exact Rs.toLH (by first | assumption | exact SH.rsR H (by (repeat first | exact At.here | apply At.there); done) | exact SH.rsO H (by (repeat first | exact At.here | apply At.there); done)) (by omega) (by omega) | exact (Rs.nil : Rs Non _ _ _)) (by assumption) (by rfl) | assumption) ?_
          refine LW.want rfl rfl hg2_31 ?_
          refine r_move rfl ?_
          refine LW.want rfl rfl hg2_31 ?_
          refine r_neq rfl rfl rfl ?_
          refine LW.want rfl rfl hg2_29 ?_
          refine r_pickT rfl rfl hg2_31 ?_
          refine LW.nil (thenE_norm ⟨rfl, rfl, rfl⟩)
        · simp only [List.take_succ_cons, List.take_zero]
          refine LW.skip rfl (fun _ e => by cases e; decide) rfl hg2_31 ?_
          refine LW.skip rfl (fun _ e => by cases e; decide) rfl hg2_31 ?_
          refine LW.skip rfl (fun _ e => by cases e; decide) rfl hg2_31 ?_
          refine LW.skip rfl (fun _ e => by cases e; decide) rfl hg2_31 ?_
          refine LW.skip rfl (fun _ e => by cases e; decide) rfl hg2_31 ?_
          refine LW.skip rfl (fun _ e => by cases e; decide) rfl hg2_31 ?_
          refine LW.skip rfl (fun _ e => by cases e; decide) rfl hg2_31 ?_
          refine LW.want rfl rfl hg2_29 ?_
          refine r_pickF rfl rfl hg2_31 ?_
          refine LW.nil (thenE_norm ⟨rfl, rfl, rfl⟩)
        simp only [setL, keepE, upd_get, ev, Nat.reduceEqDiff, ↓reduceIte]; simp only [List.drop_succ_cons, List.drop_zero]
        refine LW.want rfl rfl hg2_29 ?_
        refine r_move rfl ?_
        refine LW.splitB (t := 57) rfl (fun hg2_40 => ?_) (fun hg2_40 => ?_)
        · have hg2_40P := hg2_40
          try simp only [decide_eq_true_eq, decide_eq_false_iff_not, Bool.and_eq_true, Bool.or_eq_true, Bool.and_eq_false_iff, Bool.or_eq_false_iff, Bool.not_eq_true', Bool.not_eq_false', beq_iff_eq, bne_iff_ne] at hg2_40P
          refine LW.want rfl rfl hg2_40 ?_
          refine r_move rfl ?_
          refine LW.want rfl rfl hg2_40 ?_
          refine r_move rfl ?_
          refine LW.want rfl rfl hg2_40 ?_
          refine r_call rfl Try.call46 (by simp only [List.map_cons, List.map_nil, List.map_toArray, List.toList_toArray, upd_get, ev, Nat.reduceEqDiff, ↓reduceIte] <;> rfl) (numbered_c _ _ (by first | assumption | exact SH.rsR H (by (repeat first | exact At.here | apply At.there); done) | exact SH.rsO H (by (repeat first | exact At.here | apply At.there); done) | exact Rs.toH (by first | assumption | exact SH.rsR H (by (repeat first | exact At.here | apply At.there); done) | exact SH.rsO H (by (repeat first | exact At.here | apply At.there); done)) (by omega) | exact Rs.toL (by first | assumption | exact SH.rsR H (by (repeat first | exact At.here | apply At.there); done) | exact SH.rsO H (by (repeat first | exact At.here | apply At.there); done)) (by omega) | exact Rs.toLH (by first | assumption | exact SH.rsR H (by (repeat first | exact At.here | apply At.there); done) | exact SH.rsO H (by (repeat first | exact At.here | apply At.there); done)) (by omega) (by omega) | exact (Rs.nil : Rs Non _ _ _))) ?_
          rintro _ w2_42 ⟨rfl, X⟩
          refine ⟨_, rfl, ?_⟩
          replace H := SH.same H X
          clear X
          refine LW.want rfl rfl hg2_29 ?_
          refine r_pickT rfl rfl hg2_40 ?_
          refine r_pickF rfl rfl hg2_29 ?_
          refine LW.nil ?_
          refine thenE_norm (h4 _ _ ?_); clear h4; try clear K4
          refine CW.cond rfl (fun hc1 => ?_) (fun hc1 => ?_)
          · try simp only [decide_eq_true_eq, decide_eq_false_iff_not, Bool.and_eq_true, Bool.or_eq_true, Bool.and_eq_false_iff, Bool.or_eq_false_iff, Bool.not_eq_true', Bool.not_eq_false', beq_iff_eq, bne_iff_ne, ne_eq, Decidable.not_not] at hc1
            refine CW.seq (fun K13 h13 => ?_)
            refine CW.region ?_
            refine r_assign rfl ?_
            refine r_assign rfl ?_
            refine LW.nil ?_
            refine thenE_norm ?_
            refine cut (K := K13) [8, 9] (fun σ => ?_)
            simp only [setL, keepE, upd_get, ev, Nat.reduceEqDiff, ↓reduceIte]
            refine h13 _ _ ?_; clear h13; try clear K13
            refine CW.ret (thenE_ret (ret2 Try.results29 (by simp only [upd_get, ev, Nat.reduceEqDiff, ↓reduceIte]; rfl) (by simp only [upd_get, ev, Nat.reduceEqDiff, ↓reduceIte]; rfl) ?_))
            first
              | contradiction
              | (rw [open_bad hg2_20P]; exact ⟨_, none, rfl, SH.give (H.addO (α := Ses) 52) (by repeat first | exact List.Sublist.refl _ | exact List.nil_sublist _ | apply List.Sublist.cons_cons | apply List.Sublist.cons) ⟨trivial, trivial⟩⟩)
              | (rw [open_dupN (by rw [hf]) hg2_29]; exact ⟨_, none, rfl, SH.give (H.addO (α := Ses) 52) (by repeat first | exact List.Sublist.refl _ | exact List.nil_sublist _ | apply List.Sublist.cons_cons | apply List.Sublist.cons) ⟨trivial, trivial⟩⟩)
              | (rw [open_dupY (by rw [hf]) (by rw [hf]; exact hg2_40P.2) hc1]; exact ⟨_, none, rfl, SH.give (H.addO (α := Ses) 52) (by repeat first | exact List.Sublist.refl _ | exact List.nil_sublist _ | apply List.Sublist.cons_cons | apply List.Sublist.cons) ⟨trivial, trivial⟩⟩)
          · try simp only [decide_eq_true_eq, decide_eq_false_iff_not, Bool.and_eq_true, Bool.or_eq_true, Bool.and_eq_false_iff, Bool.or_eq_false_iff, Bool.not_eq_true', Bool.not_eq_false', beq_iff_eq, bne_iff_ne, ne_eq, Decidable.not_not] at hc1
            refine CW.skip ?_
            refine thenE_norm (h3 _ _ ?_); clear h3; try clear K3
            refine CW.seq (fun K14 h14 => ?_)
            refine CW.seq (fun K15 h15 => ?_)
            refine CW.region ?_
            refine r_move rfl ?_
            refine LW.nil ?_
            refine thenE_norm ?_
            refine cut (K := K15) [0, 1, 2, 3, 10, 63] (fun σ => ?_)
            simp only [setL, keepE, upd_get, ev, Nat.reduceEqDiff, ↓reduceIte]
            refine h15 _ _ ?_; clear h15; try clear K15
            refine CW.cond rfl (fun hc2 => ?_) (fun hc2 => ?_)
            · try simp only [decide_eq_true_eq, decide_eq_false_iff_not, Bool.and_eq_true, Bool.or_eq_true, Bool.and_eq_false_iff, Bool.or_eq_false_iff, Bool.not_eq_true', Bool.not_eq_false', beq_iff_eq, bne_iff_ne, ne_eq, Decidable.not_not] at hc2
              refine CW.seq (fun K16 h16 => ?_)
              refine CW.region ?_
              refine r_assign rfl ?_
              refine r_assign rfl ?_
              refine LW.nil ?_
              refine thenE_norm (h16 _ _ ?_); clear h16; try clear K16
              refine CW.ret (thenE_ret (ret2 Try.results29 (by simp only [upd_get, ev, Nat.reduceEqDiff, ↓reduceIte]; rfl) (by simp only [upd_get, ev, Nat.reduceEqDiff, ↓reduceIte]; rfl) ?_))
              first
                | contradiction
                | (rw [open_twice hg2_20P (by rw [hf]) (.inr hc1)]; exact ⟨_, none, rfl, SH.give (H.addO (α := Ses) 52) (by repeat first | exact List.Sublist.refl _ | exact List.nil_sublist _ | apply List.Sublist.cons_cons | apply List.Sublist.cons) ⟨trivial, trivial⟩⟩)
                | (rw [open_twice hg2_20P (by rw [hf]) (.inl (by rw [hf]; simpa using hg2_40P))]; exact ⟨_, none, rfl, SH.give (H.addO (α := Ses) 52) (by repeat first | exact List.Sublist.refl _ | exact List.nil_sublist _ | apply List.Sublist.cons_cons | apply List.Sublist.cons) ⟨trivial, trivial⟩⟩)
            · try simp only [decide_eq_true_eq, decide_eq_false_iff_not, Bool.and_eq_true, Bool.or_eq_true, Bool.and_eq_false_iff, Bool.or_eq_false_iff, Bool.not_eq_true', Bool.not_eq_false', beq_iff_eq, bne_iff_ne, ne_eq, Decidable.not_not] at hc2
              refine CW.skip ?_
              refine thenE_norm (h14 _ _ ?_); clear h14; try clear K14
              refine CW.seq (fun K17 h17 => ?_)
              refine CW.seq (fun K18 h18 => ?_)
              refine CW.region ?_
              refine r_move rfl ?_
              first
                | refine r_lenV rfl Try.underlying48 (by simp only [upd_get, ev, Nat.reduceEqDiff, ↓reduceIte] <;> rfl) (by first | assumption | exact SH.rsR H (by (repeat first | exact At.here | apply At.there); done) | exact SH.rsO H (by (repeat first | exact At.here | apply At.there); done) | exact Rs.toH (by first | assumption | exact SH.rsR H (by (repeat first | exact At.here | apply At.there); done) | exact SH.rsO H (by (repeat first | exact At.here | apply At.there); done)) (by omega) | exact Rs.toL (by first | assumption | exact SH.rsR H (by (repeat first | exact At.here | apply At.there); done) | exact SH.rsO H (by (repeat first | exact At.here | apply At.there); done)) (by omega) | exact Rs.toLH (by first | assumption | exact SH.rsR H (by (repeat first | exact At.here | apply At.there); done) | exact SH.rsO H (by (repeat first | exact At.here | apply At.there); done)) (by omega) (by omega) | exact (Rs.nil : Rs Non _ _ _)) ?_
                | refine r_len rfl Try.underlying48 rfl ?_
              refine r_geq rfl rfl rfl ?_
              refine LW.nil ?_
              refine thenE_norm (h18 _ _ ?_); clear h18; try clear K18
              refine CW.cond rfl (fun hc3 => ?_) (fun hc3 => ?_)
              · try simp only [decide_eq_true_eq, decide_eq_false_iff_not, Bool.and_eq_true, Bool.or_eq_true, Bool.and_eq_false_iff, Bool.or_eq_false_iff, Bool.not_eq_true', Bool.not_eq_false', beq_iff_eq, bne_iff_ne, ne_eq, Decidable.not_not] at hc3
                refine CW.seq (fun K19 h19 => ?_)
                refine CW.region ?_
                refine r_assign rfl ?_
                refine r_assign rfl ?_
                refine LW.nil ?_
                refine thenE_norm (h19 _ _ ?_); clear h19; try clear K19
                refine CW.ret (thenE_ret (ret2 Try.results29 (by simp only [upd_get, ev, Nat.reduceEqDiff, ↓reduceIte]; rfl) (by simp only [upd_get, ev, Nat.reduceEqDiff, ↓reduceIte]; rfl) ?_))
                first
                  | contradiction
                  | (rw [open_full hg2_20P (by rw [hf]) (by assumption) (by omega)]; exact ⟨_, none, rfl, SH.give (H.addO (α := Ses) 52) (by repeat first | exact List.Sublist.refl _ | exact List.nil_sublist _ | apply List.Sublist.cons_cons | apply List.Sublist.cons) ⟨trivial, trivial⟩⟩)
              · try simp only [decide_eq_true_eq, decide_eq_false_iff_not, Bool.and_eq_true, Bool.or_eq_true, Bool.and_eq_false_iff, Bool.or_eq_false_iff, Bool.not_eq_true', Bool.not_eq_false', beq_iff_eq, bne_iff_ne, ne_eq, Decidable.not_not] at hc3
                refine CW.skip ?_
                refine thenE_norm (h17 _ _ ?_); clear h17; try clear K17
                refine CW.seq (fun K20 h20 => ?_)
                refine CW.region ?_
                refine r_move rfl ?_
                refine r_call rfl Try.call44 (by simp only [List.map_cons, List.map_nil, List.map_toArray, List.toList_toArray, upd_get, ev, Nat.reduceEqDiff, ↓reduceIte] <;> rfl) (CloneS_c _ (by first | assumption | exact SH.rsR H (by (repeat first | exact At.here | apply At.there); done) | exact SH.rsO H (by (repeat first | exact At.here | apply At.there); done) | exact Rs.toH (by first | assumption | exact SH.rsR H (by (repeat first | exact At.here | apply At.there); done) | exact SH.rsO H (by (repeat first | exact At.here | apply At.there); done)) (by omega) | exact Rs.toL (by first | assumption | exact SH.rsR H (by (repeat first | exact At.here | apply At.there); done) | exact SH.rsO H (by (repeat first | exact At.here | apply At.there); done)) (by omega) | exact Rs.toLH (by first | assumption | exact SH.rsR H (by (repeat first | exact At.here | apply At.there); done) | exact SH.rsO H (by (repeat first | exact At.here | apply At.there); done)) (by omega) (by omega) | exact (Rs.nil : Rs Non _ _ _)) (by first | omega | (simp only [List.length_append, List.length_cons, List.length_nil]; omega) | (simp; omega))) ?_
                rintro _ w8_1 ⟨v8_1, g8_1, rfl, K⟩
                refine ⟨_, rfl, ?_⟩
                replace H := SH.call H K
                clear K
                try dsimp only [replC, List.cons_append, List.nil_append, List.append_nil, agg, cellsL, Value.cells, List.toList_toArray, List.set_cons_zero, List.set_cons_succ, spliceL, List.take_succ_cons, List.take_zero, List.drop_succ_cons, List.drop_zero, List.length_cons, List.length_nil, Nat.reduceAdd, Row.cells, Ses.L] at H
                refine r_move rfl ?_
                refine r_move rfl ?_
                refine r_move rfl ?_
                refine r_move rfl ?_
                refine r_buildQ rfl Try.underlying52 Try.zeroValue52 rfl (pl := [(0, 1), (1, 1), (2, 1)]) (by intro w; simp [go_sem]) (qs := [(0, [_]), (1, [_]), (2, [_])]) (cs := [_, _, _]) ⟨rfl, cells_one (by simp only [upd_get, ev, Nat.reduceEqDiff, ↓reduceIte] <;> rfl) (by first | rfl | exact Rs.oneC (by first | assumption | exact SH.rsR H (by (repeat first | exact At.here | apply At.there); done) | exact SH.rsO H (by (repeat first | exact At.here | apply At.there); done) | exact Rs.toH (by first | assumption | exact SH.rsR H (by (repeat first | exact At.here | apply At.there); done) | exact SH.rsO H (by (repeat first | exact At.here | apply At.there); done)) (by omega) | exact Rs.toL (by first | assumption | exact SH.rsR H (by (repeat first | exact At.here | apply At.there); done) | exact SH.rsO H (by (repeat first | exact At.here | apply At.there); done)) (by omega) | exact Rs.toLH (by first | assumption | exact SH.rsR H (by (repeat first | exact At.here | apply At.there); done) | exact SH.rsO H (by (repeat first | exact At.here | apply At.there); done)) (by omega) (by omega) | exact (Rs.nil : Rs Non _ _ _))), rfl, cells_one (by simp only [upd_get, ev, Nat.reduceEqDiff, ↓reduceIte] <;> rfl) (by first | rfl | exact Rs.oneC (by first | assumption | exact SH.rsR H (by (repeat first | exact At.here | apply At.there); done) | exact SH.rsO H (by (repeat first | exact At.here | apply At.there); done) | exact Rs.toH (by first | assumption | exact SH.rsR H (by (repeat first | exact At.here | apply At.there); done) | exact SH.rsO H (by (repeat first | exact At.here | apply At.there); done)) (by omega) | exact Rs.toL (by first | assumption | exact SH.rsR H (by (repeat first | exact At.here | apply At.there); done) | exact SH.rsO H (by (repeat first | exact At.here | apply At.there); done)) (by omega) | exact Rs.toLH (by first | assumption | exact SH.rsR H (by (repeat first | exact At.here | apply At.there); done) | exact SH.rsO H (by (repeat first | exact At.here | apply At.there); done)) (by omega) (by omega) | exact (Rs.nil : Rs Non _ _ _))), rfl, cells_one (by simp only [upd_get, ev, Nat.reduceEqDiff, ↓reduceIte] <;> rfl) (by first | rfl | exact Rs.oneC (by first | assumption | exact SH.rsR H (by (repeat first | exact At.here | apply At.there); done) | exact SH.rsO H (by (repeat first | exact At.here | apply At.there); done) | exact Rs.toH (by first | assumption | exact SH.rsR H (by (repeat first | exact At.here | apply At.there); done) | exact SH.rsO H (by (repeat first | exact At.here | apply At.there); done)) (by omega) | exact Rs.toL (by first | assumption | exact SH.rsR H (by (repeat first | exact At.here | apply At.there); done) | exact SH.rsO H (by (repeat first | exact At.here | apply At.there); done)) (by omega) | exact Rs.toLH (by first | assumption | exact SH.rsR H (by (repeat first | exact At.here | apply At.there); done) | exact SH.rsO H (by (repeat first | exact At.here | apply At.there); done)) (by omega) (by omega) | exact (Rs.nil : Rs Non _ _ _))), trivial⟩ rfl ?_
                refine r_buildSliceA (vs := [_]) rfl Try.underlying48 Try.sizeOf52 Try.zeroValue52 rfl rfl rfl rfl (by simp only [List.map_cons, List.map_nil, List.toList_toArray, numbered, Nat.reduceAdd, upd_get, ev, Nat.reduceEqDiff, ↓reduceIte] <;> rfl) rfl (by intro v hv; simp only [List.mem_cons, List.not_mem_nil, or_false] at hv; rcases hv with rfl <;> rfl) ?_
                intro b8_7 w8_7 hb8_7 hs8_7 hE8_7 hB8_7
                replace H := SH.call H (SH.fromB hE8_7 hb8_7 hs8_7 hB8_7)
                clear hb8_7 hs8_7 hE8_7 hB8_7
                try dsimp only [replC, List.cons_append, List.nil_append, List.append_nil, agg, cellsL, Value.cells, List.toList_toArray, List.set_cons_zero, List.set_cons_succ, spliceL, List.take_succ_cons, List.take_zero, List.drop_succ_cons, List.drop_zero, List.length_cons, List.length_nil, Nat.reduceAdd, Row.cells, Ses.L] at H
                replace H := SH.row (b := b8_7) (xs := ([⟨n, num, now⟩] : List Ses)) (n := 1) (cap := 1) H (by (repeat first | exact At.here | apply At.there); done) (by simp only [flat, List.flatMap_cons, List.flatMap_nil, cellsL, agg, List.append_nil, List.cons_append, List.nil_append, List.toList_toArray, Row.cells, Ses.L] <;> rfl) (by intro x hx; first | rfl | (simp at hx; done) | (simp only [List.mem_cons, List.not_mem_nil, or_false] at hx; rcases hx with rfl <;> first | rfl | exact (by first | rfl | exact Rs.oneC (by first | assumption | exact SH.rsR H (by (repeat first | exact At.here | apply At.there); done) | exact SH.rsO H (by (repeat first | exact At.here | apply At.there); done) | exact Rs.toH (by first | assumption | exact SH.rsR H (by (repeat first | exact At.here | apply At.there); done) | exact SH.rsO H (by (repeat first | exact At.here | apply At.there); done)) (by omega) | exact Rs.toL (by first | assumption | exact SH.rsR H (by (repeat first | exact At.here | apply At.there); done) | exact SH.rsO H (by (repeat first | exact At.here | apply At.there); done)) (by omega) | exact Rs.toLH (by first | assumption | exact SH.rsR H (by (repeat first | exact At.here | apply At.there); done) | exact SH.rsO H (by (repeat first | exact At.here | apply At.there); done)) (by omega) (by omega) | exact (Rs.nil : Rs Non _ _ _)) | (simp only [List.all_cons, List.all_nil, Bool.and_true, Bool.and_eq_true, Row.cells, Ses.L]; (repeat' constructor) <;> first | rfl | exact Rs.oneC (by first | assumption | exact SH.rsR H (by (repeat first | exact At.here | apply At.there); done) | exact SH.rsO H (by (repeat first | exact At.here | apply At.there); done) | exact Rs.toH (by first | assumption | exact SH.rsR H (by (repeat first | exact At.here | apply At.there); done) | exact SH.rsO H (by (repeat first | exact At.here | apply At.there); done)) (by omega) | exact Rs.toL (by first | assumption | exact SH.rsR H (by (repeat first | exact At.here | apply At.there); done) | exact SH.rsO H (by (repeat first | exact At.here | apply At.there); done)) (by omega) | exact Rs.toLH (by first | assumption | exact SH.rsR H (by (repeat first | exact At.here | apply At.there); done) | exact SH.rsO H (by (repeat first | exact At.here | apply At.there); done)) (by omega) (by omega) | exact (Rs.nil : Rs Non _ _ _)))))) (by rfl) rfl (by decide)
                try dsimp only [replC, List.cons_append, List.nil_append, List.append_nil, agg, cellsL, Value.cells, List.toList_toArray, List.set_cons_zero, List.set_cons_succ, spliceL, List.take_succ_cons, List.take_zero, List.drop_succ_cons, List.drop_zero, List.length_cons, List.length_nil, Nat.reduceAdd, Row.cells, Ses.L] at H
                refine r_call rfl Try.call47 (by simp only [List.map_cons, List.map_nil, List.map_toArray, List.toList_toArray, upd_get, ev, Nat.reduceEqDiff, ↓reduceIte] <;> rfl) (InsS_c (y := ⟨n, num, now⟩) (atS l n) _ (SH.ow H (i := 1) rfl) (SH.ow H (i := 2) rfl) (fun b h1 h2 => (SH.val H).apart (i := 1) (j := 2) rfl rfl (by decide) (.inl trivial) b h2 h1) hal (by omega)) ?_
                rintro _ w8_8 ⟨v8_8, g8_8, rfl, K⟩
                refine ⟨_, rfl, ?_⟩
                replace H := SH.updO H (i := 1) rfl K
                clear K
                try dsimp only [replC, List.cons_append, List.nil_append, List.append_nil, agg, cellsL, Value.cells, List.toList_toArray, List.set_cons_zero, List.set_cons_succ, spliceL, List.take_succ_cons, List.take_zero, List.drop_succ_cons, List.drop_zero, List.length_cons, List.length_nil, Nat.reduceAdd, Row.cells, Ses.L] at H
                refine r_assign rfl ?_
                refine r_assign rfl ?_
                refine LW.nil ?_
                refine thenE_norm ?_
                refine cut (K := K20) [8, 9] (fun σ => ?_)
                simp only [setL, keepE, upd_get, ev, Nat.reduceEqDiff, ↓reduceIte]
                refine h20 _ _ ?_; clear h20; try clear K20
                refine CW.ret (ret2 Try.results29 (by simp only [upd_get, ev, Nat.reduceEqDiff, ↓reduceIte]; rfl) (by simp only [upd_get, ev, Nat.reduceEqDiff, ↓reduceIte]; rfl) ?_)
                first
                  | contradiction
                  | (rw [open_ok hg2_20P (by rw [hf]) (by assumption) (by omega)]; exact ⟨_, _, rfl, (SH.give (SH.sel H [1] (by decide) rfl) (List.Sublist.refl _) (by repeat first | exact trivial | refine ⟨trivial, ?_⟩))⟩)
        · have hg2_40P := hg2_40
          try simp only [decide_eq_true_eq, decide_eq_false_iff_not, Bool.and_eq_true, Bool.or_eq_true, Bool.and_eq_false_iff, Bool.or_eq_false_iff, Bool.not_eq_true', Bool.not_eq_false', beq_iff_eq, bne_iff_ne] at hg2_40P
          refine LW.skip rfl (fun _ e => by cases e; decide) rfl hg2_40 ?_
          refine LW.skip rfl (fun _ e => by cases e; decide) rfl hg2_40 ?_
          refine LW.skip rfl (fun _ e => by cases e; decide) rfl hg2_40 ?_
          refine LW.want rfl rfl hg2_29 ?_
          refine r_pickF rfl rfl hg2_40 ?_
          refine r_pickF rfl rfl hg2_29 ?_
          refine LW.nil ?_
          refine thenE_norm (h4 _ _ ?_); clear h4; try clear K4
          refine CW.cond rfl (fun hc1 => ?_) (fun hc1 => ?_)
          · try simp only [decide_eq_true_eq, decide_eq_false_iff_not, Bool.and_eq_true, Bool.or_eq_true, Bool.and_eq_false_iff, Bool.or_eq_false_iff, Bool.not_eq_true', Bool.not_eq_false', beq_iff_eq, bne_iff_ne, ne_eq, Decidable.not_not] at hc1
            refine CW.seq (fun K21 h21 => ?_)
            refine CW.region ?_
            refine r_assign rfl ?_
            refine r_assign rfl ?_
            refine LW.nil ?_
            refine thenE_norm (h21 _ _ ?_); clear h21; try clear K21
            refine CW.ret (thenE_ret (ret2 Try.results29 (by simp only [upd_get, ev, Nat.reduceEqDiff, ↓reduceIte]; rfl) (by simp only [upd_get, ev, Nat.reduceEqDiff, ↓reduceIte]; rfl) ?_))
            first
              | contradiction
              | (rw [open_bad hg2_20P]; exact ⟨_, none, rfl, SH.give (H.addO (α := Ses) 52) (by repeat first | exact List.Sublist.refl _ | exact List.nil_sublist _ | apply List.Sublist.cons_cons | apply List.Sublist.cons) ⟨trivial, trivial⟩⟩)
              | (rw [open_dupN (by rw [hf]) hg2_29]; exact ⟨_, none, rfl, SH.give (H.addO (α := Ses) 52) (by repeat first | exact List.Sublist.refl _ | exact List.nil_sublist _ | apply List.Sublist.cons_cons | apply List.Sublist.cons) ⟨trivial, trivial⟩⟩)
              | (rw [open_dupY (by rw [hf]) (by rw [hf]; exact hg2_40P.2) hc1]; exact ⟨_, none, rfl, SH.give (H.addO (α := Ses) 52) (by repeat first | exact List.Sublist.refl _ | exact List.nil_sublist _ | apply List.Sublist.cons_cons | apply List.Sublist.cons) ⟨trivial, trivial⟩⟩)
          · try simp only [decide_eq_true_eq, decide_eq_false_iff_not, Bool.and_eq_true, Bool.or_eq_true, Bool.and_eq_false_iff, Bool.or_eq_false_iff, Bool.not_eq_true', Bool.not_eq_false', beq_iff_eq, bne_iff_ne, ne_eq, Decidable.not_not] at hc1
            refine CW.skip ?_
            refine thenE_norm (h3 _ _ ?_); clear h3; try clear K3
            refine CW.seq (fun K22 h22 => ?_)
            refine CW.seq (fun K23 h23 => ?_)
            refine CW.region ?_
            refine r_move rfl ?_
            refine LW.nil ?_
            refine thenE_norm (h23 _ _ ?_); clear h23; try clear K23
            refine CW.cond rfl (fun hc2 => ?_) (fun hc2 => ?_)
            · try simp only [decide_eq_true_eq, decide_eq_false_iff_not, Bool.and_eq_true, Bool.or_eq_true, Bool.and_eq_false_iff, Bool.or_eq_false_iff, Bool.not_eq_true', Bool.not_eq_false', beq_iff_eq, bne_iff_ne, ne_eq, Decidable.not_not] at hc2
              refine CW.seq (fun K24 h24 => ?_)
              refine CW.region ?_
              refine r_assign rfl ?_
              refine r_assign rfl ?_
              refine LW.nil ?_
              refine thenE_norm (h24 _ _ ?_); clear h24; try clear K24
              refine CW.ret (thenE_ret (ret2 Try.results29 (by simp only [upd_get, ev, Nat.reduceEqDiff, ↓reduceIte]; rfl) (by simp only [upd_get, ev, Nat.reduceEqDiff, ↓reduceIte]; rfl) ?_))
              first
                | contradiction
                | (rw [open_twice hg2_20P (by rw [hf]) (.inr hc1)]; exact ⟨_, none, rfl, SH.give (H.addO (α := Ses) 52) (by repeat first | exact List.Sublist.refl _ | exact List.nil_sublist _ | apply List.Sublist.cons_cons | apply List.Sublist.cons) ⟨trivial, trivial⟩⟩)
                | (rw [open_twice hg2_20P (by rw [hf]) (.inl (by rw [hf]; simpa using hg2_40P))]; exact ⟨_, none, rfl, SH.give (H.addO (α := Ses) 52) (by repeat first | exact List.Sublist.refl _ | exact List.nil_sublist _ | apply List.Sublist.cons_cons | apply List.Sublist.cons) ⟨trivial, trivial⟩⟩)
            · try simp only [decide_eq_true_eq, decide_eq_false_iff_not, Bool.and_eq_true, Bool.or_eq_true, Bool.and_eq_false_iff, Bool.or_eq_false_iff, Bool.not_eq_true', Bool.not_eq_false', beq_iff_eq, bne_iff_ne, ne_eq, Decidable.not_not] at hc2
              refine CW.skip ?_
              refine thenE_norm (h22 _ _ ?_); clear h22; try clear K22
              refine CW.seq (fun K25 h25 => ?_)
              refine CW.seq (fun K26 h26 => ?_)
              refine CW.region ?_
              refine r_move rfl ?_
              first
                | refine r_lenV rfl Try.underlying48 (by simp only [upd_get, ev, Nat.reduceEqDiff, ↓reduceIte] <;> rfl) (by first | assumption | exact SH.rsR H (by (repeat first | exact At.here | apply At.there); done) | exact SH.rsO H (by (repeat first | exact At.here | apply At.there); done) | exact Rs.toH (by first | assumption | exact SH.rsR H (by (repeat first | exact At.here | apply At.there); done) | exact SH.rsO H (by (repeat first | exact At.here | apply At.there); done)) (by omega) | exact Rs.toL (by first | assumption | exact SH.rsR H (by (repeat first | exact At.here | apply At.there); done) | exact SH.rsO H (by (repeat first | exact At.here | apply At.there); done)) (by omega) | exact Rs.toLH (by first | assumption | exact SH.rsR H (by (repeat first | exact At.here | apply At.there); done) | exact SH.rsO H (by (repeat first | exact At.here | apply At.there); done)) (by omega) (by omega) | exact (Rs.nil : Rs Non _ _ _)) ?_
                | refine r_len rfl Try.underlying48 rfl ?_
              refine r_geq rfl rfl rfl ?_
              refine LW.nil ?_
              refine thenE_norm (h26 _ _ ?_); clear h26; try clear K26
              refine CW.cond rfl (fun hc3 => ?_) (fun hc3 => ?_)
              · try simp only [decide_eq_true_eq, decide_eq_false_iff_not, Bool.and_eq_true, Bool.or_eq_true, Bool.and_eq_false_iff, Bool.or_eq_false_iff, Bool.not_eq_true', Bool.not_eq_false', beq_iff_eq, bne_iff_ne, ne_eq, Decidable.not_not] at hc3
                refine CW.seq (fun K27 h27 => ?_)
                refine CW.region ?_
                refine r_assign rfl ?_
                refine r_assign rfl ?_
                refine LW.nil ?_
                refine thenE_norm ?_
                refine cut (K := K27) [8, 9] (fun σ => ?_)
                simp only [setL, keepE, upd_get, ev, Nat.reduceEqDiff, ↓reduceIte]
                refine h27 _ _ ?_; clear h27; try clear K27
                refine CW.ret (thenE_ret (ret2 Try.results29 (by simp only [upd_get, ev, Nat.reduceEqDiff, ↓reduceIte]; rfl) (by simp only [upd_get, ev, Nat.reduceEqDiff, ↓reduceIte]; rfl) ?_))
                first
                  | contradiction
                  | (rw [open_full hg2_20P (by rw [hf]) (by assumption) (by omega)]; exact ⟨_, none, rfl, SH.give (H.addO (α := Ses) 52) (by repeat first | exact List.Sublist.refl _ | exact List.nil_sublist _ | apply List.Sublist.cons_cons | apply List.Sublist.cons) ⟨trivial, trivial⟩⟩)
              · try simp only [decide_eq_true_eq, decide_eq_false_iff_not, Bool.and_eq_true, Bool.or_eq_true, Bool.and_eq_false_iff, Bool.or_eq_false_iff, Bool.not_eq_true', Bool.not_eq_false', beq_iff_eq, bne_iff_ne, ne_eq, Decidable.not_not] at hc3
                refine CW.skip ?_
                refine thenE_norm (h25 _ _ ?_); clear h25; try clear K25
                refine CW.seq (fun K28 h28 => ?_)
                refine CW.region ?_
                refine r_move rfl ?_
                refine r_call rfl Try.call44 (by simp only [List.map_cons, List.map_nil, List.map_toArray, List.toList_toArray, upd_get, ev, Nat.reduceEqDiff, ↓reduceIte] <;> rfl) (CloneS_c _ (by first | assumption | exact SH.rsR H (by (repeat first | exact At.here | apply At.there); done) | exact SH.rsO H (by (repeat first | exact At.here | apply At.there); done) | exact Rs.toH (by first | assumption | exact SH.rsR H (by (repeat first | exact At.here | apply At.there); done) | exact SH.rsO H (by (repeat first | exact At.here | apply At.there); done)) (by omega) | exact Rs.toL (by first | assumption | exact SH.rsR H (by (repeat first | exact At.here | apply At.there); done) | exact SH.rsO H (by (repeat first | exact At.here | apply At.there); done)) (by omega) | exact Rs.toLH (by first | assumption | exact SH.rsR H (by (repeat first | exact At.here | apply At.there); done) | exact SH.rsO H (by (repeat first | exact At.here | apply At.there); done)) (by omega) (by omega) | exact (Rs.nil : Rs Non _ _ _)) (by first | omega | (simp only [List.length_append, List.length_cons, List.length_nil]; omega) | (simp; omega))) ?_
                rintro _ w8_1 ⟨v8_1, g8_1, rfl, K⟩
                refine ⟨_, rfl, ?_⟩
                replace H := SH.call H K
                clear K
                try dsimp only [replC, List.cons_append, List.nil_append, List.append_nil, agg, cellsL, Value.cells, List.toList_toArray, List.set_cons_zero, List.set_cons_succ, spliceL, List.take_succ_cons, List.take_zero, List.drop_succ_cons, List.drop_zero, List.length_cons, List.length_nil, Nat.reduceAdd, Row.cells, Ses.L] at H
                refine r_move rfl ?_
                refine r_move rfl ?_
                refine r_move rfl ?_
                refine r_move rfl ?_
                refine r_buildQ rfl Try.underlying52 Try.zeroValue52 rfl (pl := [(0, 1), (1, 1), (2, 1)]) (by intro w; simp [go_sem]) (qs := [(0, [_]), (1, [_]), (2, [_])]) (cs := [_, _, _]) ⟨rfl, cells_one (by simp only [upd_get, ev, Nat.reduceEqDiff, ↓reduceIte] <;> rfl) (by first | rfl | exact Rs.oneC (by first | assumption | exact SH.rsR H (by (repeat first | exact At.here | apply At.there); done) | exact SH.rsO H (by (repeat first | exact At.here | apply At.there); done) | exact Rs.toH (by first | assumption | exact SH.rsR H (by (repeat first | exact At.here | apply At.there); done) | exact SH.rsO H (by (repeat first | exact At.here | apply At.there); done)) (by omega) | exact Rs.toL (by first | assumption | exact SH.rsR H (by (repeat first | exact At.here | apply At.there); done) | exact SH.rsO H (by (repeat first | exact At.here | apply At.there); done)) (by omega) | exact Rs.toLH (by first | assumption | exact SH.rsR H (by (repeat first | exact At.here | apply At.there); done) | exact SH.rsO H (by (repeat first | exact At.here | apply At.there); done)) (by omega) (by omega) | exact (Rs.nil : Rs Non _ _ _))), rfl, cells_one (by simp only [upd_get, ev, Nat.reduceEqDiff, ↓reduceIte] <;> rfl) (by first | rfl | exact Rs.oneC (by first | assumption | exact SH.rsR H (by (repeat first | exact At.here | apply At.there); done) | exact SH.rsO H (by (repeat first | exact At.here | apply At.there); done) | exact Rs.toH (by first | assumption | exact SH.rsR H (by (repeat first | exact At.here | apply At.there); done) | exact SH.rsO H (by (repeat first | exact At.here | apply At.there); done)) (by omega) | exact Rs.toL (by first | assumption | exact SH.rsR H (by (repeat first | exact At.here | apply At.there); done) | exact SH.rsO H (by (repeat first | exact At.here | apply At.there); done)) (by omega) | exact Rs.toLH (by first | assumption | exact SH.rsR H (by (repeat first | exact At.here | apply At.there); done) | exact SH.rsO H (by (repeat first | exact At.here | apply At.there); done)) (by omega) (by omega) | exact (Rs.nil : Rs Non _ _ _))), rfl, cells_one (by simp only [upd_get, ev, Nat.reduceEqDiff, ↓reduceIte] <;> rfl) (by first | rfl | exact Rs.oneC (by first | assumption | exact SH.rsR H (by (repeat first | exact At.here | apply At.there); done) | exact SH.rsO H (by (repeat first | exact At.here | apply At.there); done) | exact Rs.toH (by first | assumption | exact SH.rsR H (by (repeat first | exact At.here | apply At.there); done) | exact SH.rsO H (by (repeat first | exact At.here | apply At.there); done)) (by omega) | exact Rs.toL (by first | assumption | exact SH.rsR H (by (repeat first | exact At.here | apply At.there); done) | exact SH.rsO H (by (repeat first | exact At.here | apply At.there); done)) (by omega) | exact Rs.toLH (by first | assumption | exact SH.rsR H (by (repeat first | exact At.here | apply At.there); done) | exact SH.rsO H (by (repeat first | exact At.here | apply At.there); done)) (by omega) (by omega) | exact (Rs.nil : Rs Non _ _ _))), trivial⟩ rfl ?_
                refine r_buildSliceA (vs := [_]) rfl Try.underlying48 Try.sizeOf52 Try.zeroValue52 rfl rfl rfl rfl (by simp only [List.map_cons, List.map_nil, List.toList_toArray, numbered, Nat.reduceAdd, upd_get, ev, Nat.reduceEqDiff, ↓reduceIte] <;> rfl) rfl (by intro v hv; simp only [List.mem_cons, List.not_mem_nil, or_false] at hv; rcases hv with rfl <;> rfl) ?_
                intro b8_7 w8_7 hb8_7 hs8_7 hE8_7 hB8_7
                replace H := SH.call H (SH.fromB hE8_7 hb8_7 hs8_7 hB8_7)
                clear hb8_7 hs8_7 hE8_7 hB8_7
                try dsimp only [replC, List.cons_append, List.nil_append, List.append_nil, agg, cellsL, Value.cells, List.toList_toArray, List.set_cons_zero, List.set_cons_succ, spliceL, List.take_succ_cons, List.take_zero, List.drop_succ_cons, List.drop_zero, List.length_cons, List.length_nil, Nat.reduceAdd, Row.cells, Ses.L] at H
                replace H := SH.row (b := b8_7) (xs := ([⟨n, num, now⟩] : List Ses)) (n := 1) (cap := 1) H (by (repeat first | exact At.here | apply At.there); done) (by simp only [flat, List.flatMap_cons, List.flatMap_nil, cellsL, agg, List.append_nil, List.cons_append, List.nil_append, List.toList_toArray, Row.cells, Ses.L] <;> rfl) (by intro x hx; first | rfl | (simp at hx; done) | (simp only [List.mem_cons, List.not_mem_nil, or_false] at hx; rcases hx with rfl <;> first | rfl | exact (by first | rfl | exact Rs.oneC (by first | assumption | exact SH.rsR H (by (repeat first | exact At.here | apply At.there); done) | exact SH.rsO H (by (repeat first | exact At.here | apply At.there); done) | exact Rs.toH (by first | assumption | exact SH.rsR H (by (repeat first | exact At.here | apply At.there); done) | exact SH.rsO H (by (repeat first | exact At.here | apply At.there); done)) (by omega) | exact Rs.toL (by first | assumption | exact SH.rsR H (by (repeat first | exact At.here | apply At.there); done) | exact SH.rsO H (by (repeat first | exact At.here | apply At.there); done)) (by omega) | exact Rs.toLH (by first | assumption | exact SH.rsR H (by (repeat first | exact At.here | apply At.there); done) | exact SH.rsO H (by (repeat first | exact At.here | apply At.there); done)) (by omega) (by omega) | exact (Rs.nil : Rs Non _ _ _)) | (simp only [List.all_cons, List.all_nil, Bool.and_true, Bool.and_eq_true, Row.cells, Ses.L]; (repeat' constructor) <;> first | rfl | exact Rs.oneC (by first | assumption | exact SH.rsR H (by (repeat first | exact At.here | apply At.there); done) | exact SH.rsO H (by (repeat first | exact At.here | apply At.there); done) | exact Rs.toH (by first | assumption | exact SH.rsR H (by (repeat first | exact At.here | apply At.there); done) | exact SH.rsO H (by (repeat first | exact At.here | apply At.there); done)) (by omega) | exact Rs.toL (by first | assumption | exact SH.rsR H (by (repeat first | exact At.here | apply At.there); done) | exact SH.rsO H (by (repeat first | exact At.here | apply At.there); done)) (by omega) | exact Rs.toLH (by first | assumption | exact SH.rsR H (by (repeat first | exact At.here | apply At.there); done) | exact SH.rsO H (by (repeat first | exact At.here | apply At.there); done)) (by omega) (by omega) | exact (Rs.nil : Rs Non _ _ _)))))) (by rfl) rfl (by decide)
                try dsimp only [replC, List.cons_append, List.nil_append, List.append_nil, agg, cellsL, Value.cells, List.toList_toArray, List.set_cons_zero, List.set_cons_succ, spliceL, List.take_succ_cons, List.take_zero, List.drop_succ_cons, List.drop_zero, List.length_cons, List.length_nil, Nat.reduceAdd, Row.cells, Ses.L] at H
                refine r_call rfl Try.call47 (by simp only [List.map_cons, List.map_nil, List.map_toArray, List.toList_toArray, upd_get, ev, Nat.reduceEqDiff, ↓reduceIte] <;> rfl) (InsS_c (y := ⟨n, num, now⟩) (atS l n) _ (SH.ow H (i := 1) rfl) (SH.ow H (i := 2) rfl) (fun b h1 h2 => (SH.val H).apart (i := 1) (j := 2) rfl rfl (by decide) (.inl trivial) b h2 h1) hal (by omega)) ?_
                rintro _ w8_8 ⟨v8_8, g8_8, rfl, K⟩
                refine ⟨_, rfl, ?_⟩
                replace H := SH.updO H (i := 1) rfl K
                clear K
                try dsimp only [replC, List.cons_append, List.nil_append, List.append_nil, agg, cellsL, Value.cells, List.toList_toArray, List.set_cons_zero, List.set_cons_succ, spliceL, List.take_succ_cons, List.take_zero, List.drop_succ_cons, List.drop_zero, List.length_cons, List.length_nil, Nat.reduceAdd, Row.cells, Ses.L] at H
                refine r_assign rfl ?_
                refine r_assign rfl ?_
                refine LW.nil ?_
                refine thenE_norm ?_
                refine cut (K := K28) [8, 9] (fun σ => ?_)
                simp only [setL, keepE, upd_get, ev, Nat.reduceEqDiff, ↓reduceIte]
                refine h28 _ _ ?_; clear h28; try clear K28
                refine CW.ret (ret2 Try.results29 (by simp only [upd_get, ev, Nat.reduceEqDiff, ↓reduceIte]; rfl) (by simp only [upd_get, ev, Nat.reduceEqDiff, ↓reduceIte]; rfl) ?_)
                first
                  | contradiction
                  | (rw [open_ok hg2_20P (by rw [hf]) (by assumption) (by omega)]; exact ⟨_, _, rfl, (SH.give (SH.sel H [1] (by decide) rfl) (List.Sublist.refl _) (by repeat first | exact trivial | refine ⟨trivial, ?_⟩))⟩)
    · have hg2_20P := hg2_20
      try simp only [decide_eq_true_eq, decide_eq_false_iff_not, Bool.and_eq_true, Bool.or_eq_true, Bool.and_eq_false_iff, Bool.or_eq_false_iff, Bool.not_eq_true', Bool.not_eq_false', beq_iff_eq, bne_iff_ne] at hg2_20P
      refine LW.want rfl rfl hg2_20 ?_
      refine r_move rfl ?_
      refine LW.want rfl rfl hg2_20 ?_
      refine r_not rfl rfl ?_
      refine LW.want rfl rfl hg2_20 ?_
      refine r_move rfl ?_
      refine LW.known (t := 40) (c := false) rfl (by first | rfl | (simp only [decide_eq_true_eq, decide_eq_false_iff_not, Bool.and_eq_true, Bool.or_eq_true, Bool.and_eq_false_iff, Bool.or_eq_false_iff, Bool.not_eq_true', Bool.not_eq_false', beq_iff_eq, bne_iff_ne]; omega) | simp_all) (fun hg2_23 => ?_)
      refine LW.skip rfl (fun _ e => by cases e; decide) rfl hg2_23 ?_
      refine LW.skip rfl (fun _ e => by cases e; decide) rfl hg2_23 ?_
      refine LW.skip rfl (fun _ e => by cases e; decide) rfl hg2_23 ?_
      refine LW.want rfl rfl hg2_20 ?_
      refine r_pickF rfl rfl hg2_23 ?_
      refine r_pickF rfl rfl hg2_20 ?_
      refine r_move rfl ?_
      refine LW.splitB (t := 46) rfl (fun hg2_29 => ?_) (fun hg2_29 => ?_)
      · have hg2_29P := hg2_29
        try simp only [decide_eq_true_eq, decide_eq_false_iff_not, Bool.and_eq_true, Bool.or_eq_true, Bool.and_eq_false_iff, Bool.or_eq_false_iff, Bool.not_eq_true', Bool.not_eq_false', beq_iff_eq, bne_iff_ne] at hg2_29P
        refine LW.skip rfl (fun _ e => by cases e; decide) rfl hg2_29 ?_
        refine LW.skip rfl (fun _ e => by cases e; decide) rfl hg2_29 ?_
        refine LW.skipU rfl (fun _ e => by cases e; decide) rfl ?_
        refine LW.skipU rfl (fun _ e => by cases e; decide) rfl ?_
        refine LW.skipU rfl (fun _ e => by cases e; decide) rfl ?_
        refine LW.skipU rfl (fun _ e => by cases e; decide) rfl ?_
        refine LW.skipU rfl (fun _ e => by cases e; decide) rfl ?_
        refine LW.skipU rfl (fun _ e => by cases e; decide) rfl ?_
        refine LW.skipU rfl (fun _ e => by cases e; decide) rfl ?_
        refine LW.skip rfl (fun _ e => by cases e; decide) rfl hg2_29 ?_
        refine LW.skip rfl (fun _ e => by cases e; decide) rfl hg2_29 ?_
        refine LW.skipU rfl (fun _ e => by cases e; decide) rfl ?_
        refine LW.skipU rfl (fun _ e => by cases e; decide) rfl ?_
        refine LW.skipU rfl (fun _ e => by cases e; decide) rfl ?_
        refine LW.skip rfl (fun _ e => by cases e; decide) rfl hg2_29 ?_
        refine r_pickT rfl rfl hg2_29 ?_
        refine LW.nil ?_
        refine thenE_norm ?_
        refine cut (K := K4) [0, 1, 2, 3, 10, 11, 62] (fun σ => ?_)
        simp only [setL, keepE, upd_get, ev, Nat.reduceEqDiff, ↓reduceIte]
        refine h4 _ _ ?_; clear h4; try clear K4
        refine CW.cond rfl (fun hc1 => ?_) (fun hc1 => ?_)
        · try simp only [decide_eq_true_eq, decide_eq_false_iff_not, Bool.and_eq_true, Bool.or_eq_true, Bool.and_eq_false_iff, Bool.or_eq_false_iff, Bool.not_eq_true', Bool.not_eq_false', beq_iff_eq, bne_iff_ne, ne_eq, Decidable.not_not] at hc1
          refine CW.seq (fun K29 h29 => ?_)
          refine CW.region ?_
          refine r_assign rfl ?_
          refine r_assign rfl ?_
          refine LW.nil ?_
          refine thenE_norm (h29 _ _ ?_); clear h29; try clear K29
          refine CW.ret (thenE_ret (ret2 Try.results29 (by simp only [upd_get, ev, Nat.reduceEqDiff, ↓reduceIte]; rfl) (by simp only [upd_get, ev, Nat.reduceEqDiff, ↓reduceIte]; rfl) ?_))
          first
            | contradiction
            | (rw [open_bad hg2_20P]; exact ⟨_, none, rfl, SH.give (H.addO (α := Ses) 52) (by repeat first | exact List.Sublist.refl _ | exact List.nil_sublist _ | apply List.Sublist.cons_cons | apply List.Sublist.cons) ⟨trivial, trivial⟩⟩)
            | (rw [open_dupN (by rw [hf]) hg2_29]; exact ⟨_, none, rfl, SH.give (H.addO (α := Ses) 52) (by repeat first | exact List.Sublist.refl _ | exact List.nil_sublist _ | apply List.Sublist.cons_cons | apply List.Sublist.cons) ⟨trivial, trivial⟩⟩)
            | (rw [open_dupY (by rw [hf]) (by rw [hf]; exact hg2_40P.2) hc1]; exact ⟨_, none, rfl, SH.give (H.addO (α := Ses) 52) (by repeat first | exact List.Sublist.refl _ | exact List.nil_sublist _ | apply List.Sublist.cons_cons | apply List.Sublist.cons) ⟨trivial, trivial⟩⟩)
        · try simp only [decide_eq_true_eq, decide_eq_false_iff_not, Bool.and_eq_true, Bool.or_eq_true, Bool.and_eq_false_iff, Bool.or_eq_false_iff, Bool.not_eq_true', Bool.not_eq_false', beq_iff_eq, bne_iff_ne, ne_eq, Decidable.not_not] at hc1
          refine CW.skip ?_
          refine thenE_norm (h3 _ _ ?_); clear h3; try clear K3
          refine CW.seq (fun K30 h30 => ?_)
          refine CW.seq (fun K31 h31 => ?_)
          refine CW.region ?_
          refine r_move rfl ?_
          refine LW.nil ?_
          refine thenE_norm (h31 _ _ ?_); clear h31; try clear K31
          refine CW.cond rfl (fun hc2 => ?_) (fun hc2 => ?_)
          · try simp only [decide_eq_true_eq, decide_eq_false_iff_not, Bool.and_eq_true, Bool.or_eq_true, Bool.and_eq_false_iff, Bool.or_eq_false_iff, Bool.not_eq_true', Bool.not_eq_false', beq_iff_eq, bne_iff_ne, ne_eq, Decidable.not_not] at hc2
            refine CW.seq (fun K32 h32 => ?_)
            refine CW.region ?_
            refine r_assign rfl ?_
            refine r_assign rfl ?_
            refine LW.nil ?_
            refine thenE_norm (h32 _ _ ?_); clear h32; try clear K32
            refine CW.ret (thenE_ret (ret2 Try.results29 (by simp only [upd_get, ev, Nat.reduceEqDiff, ↓reduceIte]; rfl) (by simp only [upd_get, ev, Nat.reduceEqDiff, ↓reduceIte]; rfl) ?_))
            first
              | contradiction
              | (rw [open_twice hg2_20P (by rw [hf]) (.inr hc1)]; exact ⟨_, none, rfl, SH.give (H.addO (α := Ses) 52) (by repeat first | exact List.Sublist.refl _ | exact List.nil_sublist _ | apply List.Sublist.cons_cons | apply List.Sublist.cons) ⟨trivial, trivial⟩⟩)
              | (rw [open_twice hg2_20P (by rw [hf]) (.inl (by rw [hf]; simpa using hg2_40P))]; exact ⟨_, none, rfl, SH.give (H.addO (α := Ses) 52) (by repeat first | exact List.Sublist.refl _ | exact List.nil_sublist _ | apply List.Sublist.cons_cons | apply List.Sublist.cons) ⟨trivial, trivial⟩⟩)
          · try simp only [decide_eq_true_eq, decide_eq_false_iff_not, Bool.and_eq_true, Bool.or_eq_true, Bool.and_eq_false_iff, Bool.or_eq_false_iff, Bool.not_eq_true', Bool.not_eq_false', beq_iff_eq, bne_iff_ne, ne_eq, Decidable.not_not] at hc2
            refine CW.skip ?_
            refine thenE_norm (h30 _ _ ?_); clear h30; try clear K30
            refine CW.seq (fun K33 h33 => ?_)
            refine CW.seq (fun K34 h34 => ?_)
            refine CW.region ?_
            refine r_move rfl ?_
            first
              | refine r_lenV rfl Try.underlying48 (by simp only [upd_get, ev, Nat.reduceEqDiff, ↓reduceIte] <;> rfl) (by first | assumption | exact SH.rsR H (by (repeat first | exact At.here | apply At.there); done) | exact SH.rsO H (by (repeat first | exact At.here | apply At.there); done) | exact Rs.toH (by first | assumption | exact SH.rsR H (by (repeat first | exact At.here | apply At.there); done) | exact SH.rsO H (by (repeat first | exact At.here | apply At.there); done)) (by omega) | exact Rs.toL (by first | assumption | exact SH.rsR H (by (repeat first | exact At.here | apply At.there); done) | exact SH.rsO H (by (repeat first | exact At.here | apply At.there); done)) (by omega) | exact Rs.toLH (by first | assumption | exact SH.rsR H (by (repeat first | exact At.here | apply At.there); done) | exact SH.rsO H (by (repeat first | exact At.here | apply At.there); done)) (by omega) (by omega) | exact (Rs.nil : Rs Non _ _ _)) ?_
              | refine r_len rfl Try.underlying48 rfl ?_
            refine r_geq rfl rfl rfl ?_
            refine LW.nil ?_
            refine thenE_norm (h34 _ _ ?_); clear h34; try clear K34
            refine CW.cond rfl (fun hc3 => ?_) (fun hc3 => ?_)
            · try simp only [decide_eq_true_eq, decide_eq_false_iff_not, Bool.and_eq_true, Bool.or_eq_true, Bool.and_eq_false_iff, Bool.or_eq_false_iff, Bool.not_eq_true', Bool.not_eq_false', beq_iff_eq, bne_iff_ne, ne_eq, Decidable.not_not] at hc3
              refine CW.seq (fun K35 h35 => ?_)
              refine CW.region ?_
              refine r_assign rfl ?_
              refine r_assign rfl ?_
              refine LW.nil ?_
              refine thenE_norm (h35 _ _ ?_); clear h35; try clear K35
              refine CW.ret (thenE_ret (ret2 Try.results29 (by simp only [upd_get, ev, Nat.reduceEqDiff, ↓reduceIte]; rfl) (by simp only [upd_get, ev, Nat.reduceEqDiff, ↓reduceIte]; rfl) ?_))
              first
                | contradiction
                | (rw [open_full hg2_20P (by rw [hf]) (by assumption) (by omega)]; exact ⟨_, none, rfl, SH.give (H.addO (α := Ses) 52) (by repeat first | exact List.Sublist.refl _ | exact List.nil_sublist _ | apply List.Sublist.cons_cons | apply List.Sublist.cons) ⟨trivial, trivial⟩⟩)
            · try simp only [decide_eq_true_eq, decide_eq_false_iff_not, Bool.and_eq_true, Bool.or_eq_true, Bool.and_eq_false_iff, Bool.or_eq_false_iff, Bool.not_eq_true', Bool.not_eq_false', beq_iff_eq, bne_iff_ne, ne_eq, Decidable.not_not] at hc3
              refine CW.skip ?_
              refine thenE_norm (h33 _ _ ?_); clear h33; try clear K33
              refine CW.seq (fun K36 h36 => ?_)
              refine CW.region ?_
              refine r_move rfl ?_
              refine r_call rfl Try.call44 (by simp only [List.map_cons, List.map_nil, List.map_toArray, List.toList_toArray, upd_get, ev, Nat.reduceEqDiff, ↓reduceIte] <;> rfl) (CloneS_c _ (by first | assumption | exact SH.rsR H (by (repeat first | exact At.here | apply At.there); done) | exact SH.rsO H (by (repeat first | exact At.here | apply At.there); done) | exact Rs.toH (by first | assumption | exact SH.rsR H (by (repeat first | exact At.here | apply At.there); done) | exact SH.rsO H (by (repeat first | exact At.here | apply At.there); done)) (by omega) | exact Rs.toL (by first | assumption | exact SH.rsR H (by (repeat first | exact At.here | apply At.there); done) | exact SH.rsO H (by (repeat first | exact At.here | apply At.there); done)) (by omega) | exact Rs.toLH (by first | assumption | exact SH.rsR H (by (repeat first | exact At.here | apply At.there); done) | exact SH.rsO H (by (repeat first | exact At.here | apply At.there); done)) (by omega) (by omega) | exact (Rs.nil : Rs Non _ _ _)) (by first | omega | (simp only [List.length_append, List.length_cons, List.length_nil]; omega) | (simp; omega))) ?_
              rintro _ w8_1 ⟨v8_1, g8_1, rfl, K⟩
              refine ⟨_, rfl, ?_⟩
              replace H := SH.call H K
              clear K
              try dsimp only [replC, List.cons_append, List.nil_append, List.append_nil, agg, cellsL, Value.cells, List.toList_toArray, List.set_cons_zero, List.set_cons_succ, spliceL, List.take_succ_cons, List.take_zero, List.drop_succ_cons, List.drop_zero, List.length_cons, List.length_nil, Nat.reduceAdd, Row.cells, Ses.L] at H
              refine r_move rfl ?_
              refine r_move rfl ?_
              refine r_move rfl ?_
              refine r_move rfl ?_
              refine r_buildQ rfl Try.underlying52 Try.zeroValue52 rfl (pl := [(0, 1), (1, 1), (2, 1)]) (by intro w; simp [go_sem]) (qs := [(0, [_]), (1, [_]), (2, [_])]) (cs := [_, _, _]) ⟨rfl, cells_one (by simp only [upd_get, ev, Nat.reduceEqDiff, ↓reduceIte] <;> rfl) (by first | rfl | exact Rs.oneC (by first | assumption | exact SH.rsR H (by (repeat first | exact At.here | apply At.there); done) | exact SH.rsO H (by (repeat first | exact At.here | apply At.there); done) | exact Rs.toH (by first | assumption | exact SH.rsR H (by (repeat first | exact At.here | apply At.there); done) | exact SH.rsO H (by (repeat first | exact At.here | apply At.there); done)) (by omega) | exact Rs.toL (by first | assumption | exact SH.rsR H (by (repeat first | exact At.here | apply At.there); done) | exact SH.rsO H (by (repeat first | exact At.here | apply At.there); done)) (by omega) | exact Rs.toLH (by first | assumption | exact SH.rsR H (by (repeat first | exact At.here | apply At.there); done) | exact SH.rsO H (by (repeat first | exact At.here | apply At.there); done)) (by omega) (by omega) | exact (Rs.nil : Rs Non _ _ _))), rfl, cells_one (by simp only [upd_get, ev, Nat.reduceEqDiff, ↓reduceIte] <;> rfl) (by first | rfl | exact Rs.oneC (by first | assumption | exact SH.rsR H (by (repeat first | exact At.here | apply At.there); done) | exact SH.rsO H (by (repeat first | exact At.here | apply At.there); done) | exact Rs.toH (by first | assumption | exact SH.rsR H (by (repeat first | exact At.here | apply At.there); done) | exact SH.rsO H (by (repeat first | exact At.here | apply At.there); done)) (by omega) | exact Rs.toL (by first | assumption | exact SH.rsR H (by (repeat first | exact At.here | apply At.there); done) | exact SH.rsO H (by (repeat first | exact At.here | apply At.there); done)) (by omega) | exact Rs.toLH (by first | assumption | exact SH.rsR H (by (repeat first | exact At.here | apply At.there); done) | exact SH.rsO H (by (repeat first | exact At.here | apply At.there); done)) (by omega) (by omega) | exact (Rs.nil : Rs Non _ _ _))), rfl, cells_one (by simp only [upd_get, ev, Nat.reduceEqDiff, ↓reduceIte] <;> rfl) (by first | rfl | exact Rs.oneC (by first | assumption | exact SH.rsR H (by (repeat first | exact At.here | apply At.there); done) | exact SH.rsO H (by (repeat first | exact At.here | apply At.there); done) | exact Rs.toH (by first | assumption | exact SH.rsR H (by (repeat first | exact At.here | apply At.there); done) | exact SH.rsO H (by (repeat first | exact At.here | apply At.there); done)) (by omega) | exact Rs.toL (by first | assumption | exact SH.rsR H (by (repeat first | exact At.here | apply At.there); done) | exact SH.rsO H (by (repeat first | exact At.here | apply At.there); done)) (by omega) | exact Rs.toLH (by first | assumption | exact SH.rsR H (by (repeat first | exact At.here | apply At.there); done) | exact SH.rsO H (by (repeat first | exact At.here | apply At.there); done)) (by omega) (by omega) | exact (Rs.nil : Rs Non _ _ _))), trivial⟩ rfl ?_
              refine r_buildSliceA (vs := [_]) rfl Try.underlying48 Try.sizeOf52 Try.zeroValue52 rfl rfl rfl rfl (by simp only [List.map_cons, List.map_nil, List.toList_toArray, numbered, Nat.reduceAdd, upd_get, ev, Nat.reduceEqDiff, ↓reduceIte] <;> rfl) rfl (by intro v hv; simp only [List.mem_cons, List.not_mem_nil, or_false] at hv; rcases hv with rfl <;> rfl) ?_
              intro b8_7 w8_7 hb8_7 hs8_7 hE8_7 hB8_7
              replace H := SH.call H (SH.fromB hE8_7 hb8_7 hs8_7 hB8_7)
              clear hb8_7 hs8_7 hE8_7 hB8_7
              try dsimp only [replC, List.cons_append, List.nil_append, List.append_nil, agg, cellsL, Value.cells, List.toList_toArray, List.set_cons_zero, List.set_cons_succ, spliceL, List.take_succ_cons, List.take_zero, List.drop_succ_cons, List.drop_zero, List.length_cons, List.length_nil, Nat.reduceAdd, Row.cells, Ses.L] at H
              replace H := SH.row (b := b8_7) (xs := ([⟨n, num, now⟩] : List Ses)) (n := 1) (cap := 1) H (by (repeat first | exact At.here | apply At.there); done) (by simp only [flat, List.flatMap_cons, List.flatMap_nil, cellsL, agg, List.append_nil, List.cons_append, List.nil_append, List.toList_toArray, Row.cells, Ses.L] <;> rfl) (by intro x hx; first | rfl | (simp at hx; done) | (simp only [List.mem_cons, List.not_mem_nil, or_false] at hx; rcases hx with rfl <;> first | rfl | exact (by first | rfl | exact Rs.oneC (by first | assumption | exact SH.rsR H (by (repeat first | exact At.here | apply At.there); done) | exact SH.rsO H (by (repeat first | exact At.here | apply At.there); done) | exact Rs.toH (by first | assumption | exact SH.rsR H (by (repeat first | exact At.here | apply At.there); done) | exact SH.rsO H (by (repeat first | exact At.here | apply At.there); done)) (by omega) | exact Rs.toL (by first | assumption | exact SH.rsR H (by (repeat first | exact At.here | apply At.there); done) | exact SH.rsO H (by (repeat first | exact At.here | apply At.there); done)) (by omega) | exact Rs.toLH (by first | assumption | exact SH.rsR H (by (repeat first | exact At.here | apply At.there); done) | exact SH.rsO H (by (repeat first | exact At.here | apply At.there); done)) (by omega) (by omega) | exact (Rs.nil : Rs Non _ _ _)) | (simp only [List.all_cons, List.all_nil, Bool.and_true, Bool.and_eq_true, Row.cells, Ses.L]; (repeat' constructor) <;> first | rfl | exact Rs.oneC (by first | assumption | exact SH.rsR H (by (repeat first | exact At.here | apply At.there); done) | exact SH.rsO H (by (repeat first | exact At.here | apply At.there); done) | exact Rs.toH (by first | assumption | exact SH.rsR H (by (repeat first | exact At.here | apply At.there); done) | exact SH.rsO H (by (repeat first | exact At.here | apply At.there); done)) (by omega) | exact Rs.toL (by first | assumption | exact SH.rsR H (by (repeat first | exact At.here | apply At.there); done) | exact SH.rsO H (by (repeat first | exact At.here | apply At.there); done)) (by omega) | exact Rs.toLH (by first | assumption | exact SH.rsR H (by (repeat first | exact At.here | apply At.there); done) | exact SH.rsO H (by (repeat first | exact At.here | apply At.there); done)) (by omega) (by omega) | exact (Rs.nil : Rs Non _ _ _)))))) (by rfl) rfl (by decide)
              try dsimp only [replC, List.cons_append, List.nil_append, List.append_nil, agg, cellsL, Value.cells, List.toList_toArray, List.set_cons_zero, List.set_cons_succ, spliceL, List.take_succ_cons, List.take_zero, List.drop_succ_cons, List.drop_zero, List.length_cons, List.length_nil, Nat.reduceAdd, Row.cells, Ses.L] at H
              refine r_call rfl Try.call47 (by simp only [List.map_cons, List.map_nil, List.map_toArray, List.toList_toArray, upd_get, ev, Nat.reduceEqDiff, ↓reduceIte] <;> rfl) (InsS_c (y := ⟨n, num, now⟩) (atS l n) _ (SH.ow H (i := 1) rfl) (SH.ow H (i := 2) rfl) (fun b h1 h2 => (SH.val H).apart (i := 1) (j := 2) rfl rfl (by decide) (.inl trivial) b h2 h1) hal (by omega)) ?_
              rintro _ w8_8 ⟨v8_8, g8_8, rfl, K⟩
              refine ⟨_, rfl, ?_⟩
              replace H := SH.updO H (i := 1) rfl K
              clear K
              try dsimp only [replC, List.cons_append, List.nil_append, List.append_nil, agg, cellsL, Value.cells, List.toList_toArray, List.set_cons_zero, List.set_cons_succ, spliceL, List.take_succ_cons, List.take_zero, List.drop_succ_cons, List.drop_zero, List.length_cons, List.length_nil, Nat.reduceAdd, Row.cells, Ses.L] at H
              refine r_assign rfl ?_
              refine r_assign rfl ?_
              refine LW.nil ?_
              refine thenE_norm ?_
              refine cut (K := K36) [8, 9] (fun σ => ?_)
              simp only [setL, keepE, upd_get, ev, Nat.reduceEqDiff, ↓reduceIte]
              refine h36 _ _ ?_; clear h36; try clear K36
              refine CW.ret (ret2 Try.results29 (by simp only [upd_get, ev, Nat.reduceEqDiff, ↓reduceIte]; rfl) (by simp only [upd_get, ev, Nat.reduceEqDiff, ↓reduceIte]; rfl) ?_)
              first
                | contradiction
                | (rw [open_ok hg2_20P (by rw [hf]) (by assumption) (by omega)]; exact ⟨_, _, rfl, (SH.give (SH.sel H [1] (by decide) rfl) (List.Sublist.refl _) (by repeat first | exact trivial | refine ⟨trivial, ?_⟩))⟩)
      · have hg2_29P := hg2_29
        try simp only [decide_eq_true_eq, decide_eq_false_iff_not, Bool.and_eq_true, Bool.or_eq_true, Bool.and_eq_false_iff, Bool.or_eq_false_iff, Bool.not_eq_true', Bool.not_eq_false', beq_iff_eq, bne_iff_ne] at hg2_29P
        refine LW.want rfl rfl hg2_29 ?_
        refine r_move rfl ?_
        refine LW.want rfl rfl hg2_29 ?_
        refine r_move rfl ?_
        refine' LW.grpAnd (n := 8) (ts := [0, 1, 2, 3, 10, 11, 46, 57]) (d := 56) (tj := 48) rfl (fun hg2_31 => ?_) (fun hg2_31 => ?_) (fun σ => ?_)
        rotate_left
        · simp only [List.take_succ_cons, List.take_zero]
          have hg2_31P := hg2_31
          try simp only [decide_eq_true_eq, decide_eq_false_iff_not, Bool.and_eq_true, Bool.or_eq_true, Bool.and_eq_false_iff, Bool.or_eq_false_iff, Bool.not_eq_true', Bool.not_eq_false', beq_iff_eq, bne_iff_ne] at hg2_31P
          refine LW.want rfl rfl hg2_31 ?_
          refine r_move rfl ?_
          refine LW.want rfl rfl hg2_31 ?_
          refine r_move rfl ?_
          refine LW.want rfl rfl hg2_31 ?_
          refine r_indexAddrV rfl Try.underlying48 (by simp only [upd_get, ev, Nat.reduceEqDiff, ↓reduceIte] <;> rfl) rfl (by first | assumption | exact SH.rsR H (by (repeat first | exact At.here | apply At.there); done) | exact SH.rsO H (by (repeat first | exact At.here | apply At.there); done) | exact Rs.toH (by first | assumption | exact SH.rsR H (by (repeat first | exact At.here | apply At.there); done) | exact SH.rsO H (by (repeat first | exact At.here | apply At.there); done)) (by omega) | exact Rs.toL (by first | assumption | exact SH.rsR H (by (repeat first | exact At.here | apply At.there); done) | exact SH.rsO H (by (repeat first | exact At.here | apply At.there); done)) (by omega) | exact Rs.toLH (by first | assumption | exact SH.rsR H (by (repeat first | exact At.here | apply At.there); done) | exact SH.rsO H (by (repeat first | exact At.here | apply At.there); done)) (by omega) (by omega) | exact (Rs.nil : Rs Non _ _ _)) (by exact Try.sizeOf52) (by omega) (by omega) ?_
          refine LW.want rfl rfl hg2_31 ?_
          refine r_fieldAddrO rfl Try.underlying52 rfl Try.sizeOf3 (by decide) (show _ + 1 = _ from rfl) rfl ?_
          refine LW.want rfl rfl hg2_31 ?_
          refine r_load rfl Try.isAgg3 rfl (by first | exact SH.cellB H (by (repeat first | exact At.here | apply At.there); done) (by rfl) | exact SH.cellI H (by (repeat first | exact At.here | apply At.there); done) (by rfl) | exact Rs.cell (by first | assumption | exact SH.rsR H (by (repeat first | exact At.here | apply At.there); done) | exact SH.rsO H (by (repeat first | exact At.here | apply At.there); done) | exact Rs.toH (by first | assumption | exact SH.rsR H (by (repeat first | exact At.here | apply At.there); done) | exact SH.rsO H (by (repeat first | exact At.here | apply At.there); done)) (by omega) | exact Rs.toL (by first | assumption | exact SH.rsR H (by (repeat first | exact At.here | apply At.there); done) | exact SH.rsO H (by (repeat first | exact At.here | apply At.there); done)) (by omega) | exact Rs.toLH (by first | assumption | exact SH.rsR H (by (repeat first | exact At.here | apply At.there); done) | exact SH.rsO H (by (repeat first | exact At.here | apply At.there); done)) (by omega) (by omega) | exact (Rs.nil : Rs Non _ _ _)) (by assumption) (by rfl) | exact Rs.cell0 (by first | assumption | exact SH.rsR H (by (repeat first | exact At.here | apply At.there); done) | exact SH.rsO H (by (repeat first | exact At.here | apply At.there); done) | exact Rs.toH (by first | assumption | exact SH.rsR H (by (repeat first | exact At.here | apply At.there); done) | exact SH.rsO H (by (repeat first | exact At.here | apply At.there); done)) (by omega) | exact Rs.toL (by first | assumption | exact SH.rsR H (by (repeat first | exact At.here | apply At.there); done) | exact SH.rsO H (by (repeat first | exact At.here | apply At.there); done)) (by omega) | exact Rs.toLH (by first | assumption | exact SH.rsR H (by (repeat first | exact At.here | apply At.there); done) | exact SH.rsO H (by (repeat first | exact At.here | apply At.there); done)) (by omega) (by omega) | exact (Rs.nil : Rs Non _ _ _)) (by assumption) (by rfl) | assumption) ?_
          refine LW.want rfl rfl hg2_31 ?_
          refine r_move rfl ?_
          refine LW.want rfl rfl hg2_31 ?_
          refine r_neq rfl rfl rfl ?_
          refine LW.want rfl rfl hg2_29 ?_
          refine r_pickT rfl rfl hg2_31 ?_
          refine LW.nil (thenE_norm ⟨rfl, rfl, rfl⟩)
        · simp only [List.take_succ_cons, List.take_zero]
          refine LW.skip rfl (fun _ e => by cases e; decide) rfl hg2_31 ?_
          refine LW.skip rfl (fun _ e => by cases e; decide) rfl hg2_31 ?_
          refine LW.skip rfl (fun _ e => by cases e; decide) rfl hg2_31 ?_
          refine LW.skip rfl (fun _ e => by cases e; decide) rfl hg2_31 ?_
          refine LW.skip rfl (fun _ e => by cases e; decide) rfl hg2_31 ?_
          refine LW.skip rfl (fun _ e => by cases e; decide) rfl hg2_31 ?_
          refine LW.skip rfl (fun _ e => by cases e; decide) rfl hg2_31 ?_
          refine LW.want rfl rfl hg2_29 ?_
          refine r_pickF rfl rfl hg2_31 ?_
          refine LW.nil (thenE_norm ⟨rfl, rfl, rfl⟩)
        simp only [setL, keepE, upd_get, ev, Nat.reduceEqDiff, ↓reduceIte]; simp only [List.drop_succ_cons, List.drop_zero]
        refine LW.want rfl rfl hg2_29 ?_
        refine r_move rfl ?_
        refine LW.splitB (t := 57) rfl (fun hg2_40 => ?_) (fun hg2_40 => ?_)
        · have hg2_40P := hg2_40
          try simp only [decide_eq_true_eq, decide_eq_false_iff_not, Bool.and_eq_true, Bool.or_eq_true, Bool.and_eq_false_iff, Bool.or_eq_false_iff, Bool.not_eq_true', Bool.not_eq_false', beq_iff_eq, bne_iff_ne] at hg2_40P
          refine LW.want rfl rfl hg2_40 ?_
          refine r_move rfl ?_
          refine LW.want rfl rfl hg2_40 ?_
          refine r_move rfl ?_
          refine LW.want rfl rfl hg2_40 ?_
          refine r_call rfl Try.call46 (by simp only [List.map_cons, List.map_nil, List.map_toArray, List.toList_toArray, upd_get, ev, Nat.reduceEqDiff, ↓reduceIte] <;> rfl) (numbered_c _ _ (by first | assumption | exact SH.rsR H (by (repeat first | exact At.here | apply At.there); done) | exact SH.rsO H (by (repeat first | exact At.here | apply At.there); done) | exact Rs.toH (by first | assumption | exact SH.rsR H (by (repeat first | exact At.here | apply At.there); done) | exact SH.rsO H (by (repeat first | exact At.here | apply At.there); done)) (by omega) | exact Rs.toL (by first | assumption | exact SH.rsR H (by (repeat first | exact At.here | apply At.there); done) | exact SH.rsO H (by (repeat first | exact At.here | apply At.there); done)) (by omega) | exact Rs.toLH (by first | assumption | exact SH.rsR H (by (repeat first | exact At.here | apply At.there); done) | exact SH.rsO H (by (repeat first | exact At.here | apply At.there); done)) (by omega) (by omega) | exact (Rs.nil : Rs Non _ _ _))) ?_
          rintro _ w2_42 ⟨rfl, X⟩
          refine ⟨_, rfl, ?_⟩
          replace H := SH.same H X
          clear X
          refine LW.want rfl rfl hg2_29 ?_
          refine r_pickT rfl rfl hg2_40 ?_
          refine r_pickF rfl rfl hg2_29 ?_
          refine LW.nil ?_
          refine thenE_norm (h4 _ _ ?_); clear h4; try clear K4
          refine CW.cond rfl (fun hc1 => ?_) (fun hc1 => ?_)
          · try simp only [decide_eq_true_eq, decide_eq_false_iff_not, Bool.and_eq_true, Bool.or_eq_true, Bool.and_eq_false_iff, Bool.or_eq_false_iff, Bool.not_eq_true', Bool.not_eq_false', beq_iff_eq, bne_iff_ne, ne_eq, Decidable.not_not] at hc1
            refine CW.seq (fun K37 h37 => ?_)
            refine CW.region ?_
            refine r_assign rfl ?_
            refine r_assign rfl ?_
            refine LW.nil ?_
            refine thenE_norm ?_
            refine cut (K := K37) [8, 9] (fun σ => ?_)
            simp only [setL, keepE, upd_get, ev, Nat.reduceEqDiff, ↓reduceIte]
            refine h37 _ _ ?_; clear h37; try clear K37
            refine CW.ret (thenE_ret (ret2 Try.results29 (by simp only [upd_get, ev, Nat.reduceEqDiff, ↓reduceIte]; rfl) (by simp only [upd_get, ev, Nat.reduceEqDiff, ↓reduceIte]; rfl) ?_))
            first
              | contradiction
              | (rw [open_bad hg2_20P]; exact ⟨_, none, rfl, SH.give (H.addO (α := Ses) 52) (by repeat first | exact List.Sublist.refl _ | exact List.nil_sublist _ | apply List.Sublist.cons_cons | apply List.Sublist.cons) ⟨trivial, trivial⟩⟩)
              | (rw [open_dupN (by rw [hf]) hg2_29]; exact ⟨_, none, rfl, SH.give (H.addO (α := Ses) 52) (by repeat first | exact List.Sublist.refl _ | exact List.nil_sublist _ | apply List.Sublist.cons_cons | apply List.Sublist.cons) ⟨trivial, trivial⟩⟩)
              | (rw [open_dupY (by rw [hf]) (by rw [hf]; exact hg2_40P.2) hc1]; exact ⟨_, none, rfl, SH.give (H.addO (α := Ses) 52) (by repeat first | exact List.Sublist.refl _ | exact List.nil_sublist _ | apply List.Sublist.cons_cons | apply List.Sublist.cons) ⟨trivial, trivial⟩⟩)
          · try simp only [decide_eq_true_eq, decide_eq_false_iff_not, Bool.and_eq_true, Bool.or_eq_true, Bool.and_eq_false_iff, Bool.or_eq_false_iff, Bool.not_eq_true', Bool.not_eq_false', beq_iff_eq, bne_iff_ne, ne_eq, Decidable.not_not] at hc1
            refine CW.skip ?_
            refine thenE_norm (h3 _ _ ?_); clear h3; try clear K3
            refine CW.seq (fun K38 h38 => ?_)
            refine CW.seq (fun K39 h39 => ?_)
            refine CW.region ?_
            refine r_move rfl ?_
            refine LW.nil ?_
            refine thenE_norm ?_
            refine cut (K := K39) [0, 1, 2, 3, 10, 63] (fun σ => ?_)
            simp only [setL, keepE, upd_get, ev, Nat.reduceEqDiff, ↓reduceIte]
            refine h39 _ _ ?_; clear h39; try clear K39
            refine CW.cond rfl (fun hc2 => ?_) (fun hc2 => ?_)
            · try simp only [decide_eq_true_eq, decide_eq_false_iff_not, Bool.and_eq_true, Bool.or_eq_true, Bool.and_eq_false_iff, Bool.or_eq_false_iff, Bool.not_eq_true', Bool.not_eq_false', beq_iff_eq, bne_iff_ne, ne_eq, Decidable.not_not] at hc2
              refine CW.seq (fun K40 h40 => ?_)
              refine CW.region ?_
              refine r_assign rfl ?_
              refine r_assign rfl ?_
              refine LW.nil ?_
              refine thenE_norm (h40 _ _ ?_); clear h40; try clear K40
              refine CW.ret (thenE_ret (ret2 Try.results29 (by simp only [upd_get, ev, Nat.reduceEqDiff, ↓reduceIte]; rfl) (by simp only [upd_get, ev, Nat.reduceEqDiff, ↓reduceIte]; rfl) ?_))
              first
                | contradiction
                | (rw [open_twice hg2_20P (by rw [hf]) (.inr hc1)]; exact ⟨_, none, rfl, SH.give (H.addO (α := Ses) 52) (by repeat first | exact List.Sublist.refl _ | exact List.nil_sublist _ | apply List.Sublist.cons_cons | apply List.Sublist.cons) ⟨trivial, trivial⟩⟩)
                | (rw [open_twice hg2_20P (by rw [hf]) (.inl (by rw [hf]; simpa using hg2_40P))]; exact ⟨_, none, rfl, SH.give (H.addO (α := Ses) 52) (by repeat first | exact List.Sublist.refl _ | exact List.nil_sublist _ | apply List.Sublist.cons_cons | apply List.Sublist.cons) ⟨trivial, trivial⟩⟩)
            · try simp only [decide_eq_true_eq, decide_eq_false_iff_not, Bool.and_eq_true, Bool.or_eq_true, Bool.and_eq_false_iff, Bool.or_eq_false_iff, Bool.not_eq_true', Bool.not_eq_false', beq_iff_eq, bne_iff_ne, ne_eq, Decidable.not_not] at hc2
              refine CW.skip ?_
              refine thenE_norm (h38 _ _ ?_); clear h38; try clear K38
              refine CW.seq (fun K41 h41 => ?_)
              refine CW.seq (fun K42 h42 => ?_)
              refine CW.region ?_
              refine r_move rfl ?_
              first
                | refine r_lenV rfl Try.underlying48 (by simp only [upd_get, ev, Nat.reduceEqDiff, ↓reduceIte] <;> rfl) (by first | assumption | exact SH.rsR H (by (repeat first | exact At.here | apply At.there); done) | exact SH.rsO H (by (repeat first | exact At.here | apply At.there); done) | exact Rs.toH (by first | assumption | exact SH.rsR H (by (repeat first | exact At.here | apply At.there); done) | exact SH.rsO H (by (repeat first | exact At.here | apply At.there); done)) (by omega) | exact Rs.toL (by first | assumption | exact SH.rsR H (by (repeat first | exact At.here | apply At.there); done) | exact SH.rsO H (by (repeat first | exact At.here | apply At.there); done)) (by omega) | exact Rs.toLH (by first | assumption | exact SH.rsR H (by (repeat first | exact At.here | apply At.there); done) | exact SH.rsO H (by (repeat first | exact At.here | apply At.there); done)) (by omega) (by omega) | exact (Rs.nil : Rs Non _ _ _)) ?_
                | refine r_len rfl Try.underlying48 rfl ?_
              refine r_geq rfl rfl rfl ?_
              refine LW.nil ?_
              refine thenE_norm (h42 _ _ ?_); clear h42; try clear K42
              refine CW.cond rfl (fun hc3 => ?_) (fun hc3 => ?_)
              · try simp only [decide_eq_true_eq, decide_eq_false_iff_not, Bool.and_eq_true, Bool.or_eq_true, Bool.and_eq_false_iff, Bool.or_eq_false_iff, Bool.not_eq_true', Bool.not_eq_false', beq_iff_eq, bne_iff_ne, ne_eq, Decidable.not_not] at hc3
                refine CW.seq (fun K43 h43 => ?_)
                refine CW.region ?_
                refine r_assign rfl ?_
                refine r_assign rfl ?_
                refine LW.nil ?_
                refine thenE_norm (h43 _ _ ?_); clear h43; try clear K43
                refine CW.ret (thenE_ret (ret2 Try.results29 (by simp only [upd_get, ev, Nat.reduceEqDiff, ↓reduceIte]; rfl) (by simp only [upd_get, ev, Nat.reduceEqDiff, ↓reduceIte]; rfl) ?_))
                first
                  | contradiction
                  | (rw [open_full hg2_20P (by rw [hf]) (by assumption) (by omega)]; exact ⟨_, none, rfl, SH.give (H.addO (α := Ses) 52) (by repeat first | exact List.Sublist.refl _ | exact List.nil_sublist _ | apply List.Sublist.cons_cons | apply List.Sublist.cons) ⟨trivial, trivial⟩⟩)
              · try simp only [decide_eq_true_eq, decide_eq_false_iff_not, Bool.and_eq_true, Bool.or_eq_true, Bool.and_eq_false_iff, Bool.or_eq_false_iff, Bool.not_eq_true', Bool.not_eq_false', beq_iff_eq, bne_iff_ne, ne_eq, Decidable.not_not] at hc3
                refine CW.skip ?_
                refine thenE_norm (h41 _ _ ?_); clear h41; try clear K41
                refine CW.seq (fun K44 h44 => ?_)
                refine CW.region ?_
                refine r_move rfl ?_
                refine r_call rfl Try.call44 (by simp only [List.map_cons, List.map_nil, List.map_toArray, List.toList_toArray, upd_get, ev, Nat.reduceEqDiff, ↓reduceIte] <;> rfl) (CloneS_c _ (by first | assumption | exact SH.rsR H (by (repeat first | exact At.here | apply At.there); done) | exact SH.rsO H (by (repeat first | exact At.here | apply At.there); done) | exact Rs.toH (by first | assumption | exact SH.rsR H (by (repeat first | exact At.here | apply At.there); done) | exact SH.rsO H (by (repeat first | exact At.here | apply At.there); done)) (by omega) | exact Rs.toL (by first | assumption | exact SH.rsR H (by (repeat first | exact At.here | apply At.there); done) | exact SH.rsO H (by (repeat first | exact At.here | apply At.there); done)) (by omega) | exact Rs.toLH (by first | assumption | exact SH.rsR H (by (repeat first | exact At.here | apply At.there); done) | exact SH.rsO H (by (repeat first | exact At.here | apply At.there); done)) (by omega) (by omega) | exact (Rs.nil : Rs Non _ _ _)) (by first | omega | (simp only [List.length_append, List.length_cons, List.length_nil]; omega) | (simp; omega))) ?_
                rintro _ w8_1 ⟨v8_1, g8_1, rfl, K⟩
                refine ⟨_, rfl, ?_⟩
                replace H := SH.call H K
                clear K
                try dsimp only [replC, List.cons_append, List.nil_append, List.append_nil, agg, cellsL, Value.cells, List.toList_toArray, List.set_cons_zero, List.set_cons_succ, spliceL, List.take_succ_cons, List.take_zero, List.drop_succ_cons, List.drop_zero, List.length_cons, List.length_nil, Nat.reduceAdd, Row.cells, Ses.L] at H
                refine r_move rfl ?_
                refine r_move rfl ?_
                refine r_move rfl ?_
                refine r_move rfl ?_
                refine r_buildQ rfl Try.underlying52 Try.zeroValue52 rfl (pl := [(0, 1), (1, 1), (2, 1)]) (by intro w; simp [go_sem]) (qs := [(0, [_]), (1, [_]), (2, [_])]) (cs := [_, _, _]) ⟨rfl, cells_one (by simp only [upd_get, ev, Nat.reduceEqDiff, ↓reduceIte] <;> rfl) (by first | rfl | exact Rs.oneC (by first | assumption | exact SH.rsR H (by (repeat first | exact At.here | apply At.there); done) | exact SH.rsO H (by (repeat first | exact At.here | apply At.there); done) | exact Rs.toH (by first | assumption | exact SH.rsR H (by (repeat first | exact At.here | apply At.there); done) | exact SH.rsO H (by (repeat first | exact At.here | apply At.there); done)) (by omega) | exact Rs.toL (by first | assumption | exact SH.rsR H (by (repeat first | exact At.here | apply At.there); done) | exact SH.rsO H (by (repeat first | exact At.here | apply At.there); done)) (by omega) | exact Rs.toLH (by first | assumption | exact SH.rsR H (by (repeat first | exact At.here | apply At.there); done) | exact SH.rsO H (by (repeat first | exact At.here | apply At.there); done)) (by omega) (by omega) | exact (Rs.nil : Rs Non _ _ _))), rfl, cells_one (by simp only [upd_get, ev, Nat.reduceEqDiff, ↓reduceIte] <;> rfl) (by first | rfl | exact Rs.oneC (by first | assumption | exact SH.rsR H (by (repeat first | exact At.here | apply At.there); done) | exact SH.rsO H (by (repeat first | exact At.here | apply At.there); done) | exact Rs.toH (by first | assumption | exact SH.rsR H (by (repeat first | exact At.here | apply At.there); done) | exact SH.rsO H (by (repeat first | exact At.here | apply At.there); done)) (by omega) | exact Rs.toL (by first | assumption | exact SH.rsR H (by (repeat first | exact At.here | apply At.there); done) | exact SH.rsO H (by (repeat first | exact At.here | apply At.there); done)) (by omega) | exact Rs.toLH (by first | assumption | exact SH.rsR H (by (repeat first | exact At.here | apply At.there); done) | exact SH.rsO H (by (repeat first | exact At.here | apply At.there); done)) (by omega) (by omega) | exact (Rs.nil : Rs Non _ _ _))), rfl, cells_one (by simp only [upd_get, ev, Nat.reduceEqDiff, ↓reduceIte] <;> rfl) (by first | rfl | exact Rs.oneC (by first | assumption | exact SH.rsR H (by (repeat first | exact At.here | apply At.there); done) | exact SH.rsO H (by (repeat first | exact At.here | apply At.there); done) | exact Rs.toH (by first | assumption | exact SH.rsR H (by (repeat first | exact At.here | apply At.there); done) | exact SH.rsO H (by (repeat first | exact At.here | apply At.there); done)) (by omega) | exact Rs.toL (by first | assumption | exact SH.rsR H (by (repeat first | exact At.here | apply At.there); done) | exact SH.rsO H (by (repeat first | exact At.here | apply At.there); done)) (by omega) | exact Rs.toLH (by first | assumption | exact SH.rsR H (by (repeat first | exact At.here | apply At.there); done) | exact SH.rsO H (by (repeat first | exact At.here | apply At.there); done)) (by omega) (by omega) | exact (Rs.nil : Rs Non _ _ _))), trivial⟩ rfl ?_
                refine r_buildSliceA (vs := [_]) rfl Try.underlying48 Try.sizeOf52 Try.zeroValue52 rfl rfl rfl rfl (by simp only [List.map_cons, List.map_nil, List.toList_toArray, numbered, Nat.reduceAdd, upd_get, ev, Nat.reduceEqDiff, ↓reduceIte] <;> rfl) rfl (by intro v hv; simp only [List.mem_cons, List.not_mem_nil, or_false] at hv; rcases hv with rfl <;> rfl) ?_
                intro b8_7 w8_7 hb8_7 hs8_7 hE8_7 hB8_7
                replace H := SH.call H (SH.fromB hE8_7 hb8_7 hs8_7 hB8_7)
                clear hb8_7 hs8_7 hE8_7 hB8_7
                try dsimp only [replC, List.cons_append, List.nil_append, List.append_nil, agg, cellsL, Value.cells, List.toList_toArray, List.set_cons_zero, List.set_cons_succ, spliceL, List.take_succ_cons, List.take_zero, List.drop_succ_cons, List.drop_zero, List.length_cons, List.length_nil, Nat.reduceAdd, Row.cells, Ses.L] at H
                replace H := SH.row (b := b8_7) (xs := ([⟨n, num, now⟩] : List Ses)) (n := 1) (cap := 1) H (by (repeat first | exact At.here | apply At.there); done) (by simp only [flat, List.flatMap_cons, List.flatMap_nil, cellsL, agg, List.append_nil, List.cons_append, List.nil_append, List.toList_toArray, Row.cells, Ses.L] <;> rfl) (by intro x hx; first | rfl | (simp at hx; done) | (simp only [List.mem_cons, List.not_mem_nil, or_false] at hx; rcases hx with rfl <;> first | rfl | exact (by first | rfl | exact Rs.oneC (by first | assumption | exact SH.rsR H (by (repeat first | exact At.here | apply At.there); done) | exact SH.rsO H (by (repeat first | exact At.here | apply At.there); done) | exact Rs.toH (by first | assumption | exact SH.rsR H (by (repeat first | exact At.here | apply At.there); done) | exact SH.rsO H (by (repeat first | exact At.here | apply At.there); done)) (by omega) | exact Rs.toL (by first | assumption | exact SH.rsR H (by (repeat first | exact At.here | apply At.there); done) | exact SH.rsO H (by (repeat first | exact At.here | apply At.there); done)) (by omega) | exact Rs.toLH (by first | assumption | exact SH.rsR H (by (repeat first | exact At.here | apply At.there); done) | exact SH.rsO H (by (repeat first | exact At.here | apply At.there); done)) (by omega) (by omega) | exact (Rs.nil : Rs Non _ _ _)) | (simp only [List.all_cons, List.all_nil, Bool.and_true, Bool.and_eq_true, Row.cells, Ses.L]; (repeat' constructor) <;> first | rfl | exact Rs.oneC (by first | assumption | exact SH.rsR H (by (repeat first | exact At.here | apply At.there); done) | exact SH.rsO H (by (repeat first | exact At.here | apply At.there); done) | exact Rs.toH (by first | assumption | exact SH.rsR H (by (repeat first | exact At.here | apply At.there); done) | exact SH.rsO H (by (repeat first | exact At.here | apply At.there); done)) (by omega) | exact Rs.toL (by first | assumption | exact SH.rsR H (by (repeat first | exact At.here | apply At.there); done) | exact SH.rsO H (by (repeat first | exact At.here | apply At.there); done)) (by omega) | exact Rs.toLH (by first | assumption | exact SH.rsR H (by (repeat first | exact At.here | apply At.there); done) | exact SH.rsO H (by (repeat first | exact At.here | apply At.there); done)) (by omega) (by omega) | exact (Rs.nil : Rs Non _ _ _)))))) (by rfl) rfl (by decide)
                try dsimp only [replC, List.cons_append, List.nil_append, List.append_nil, agg, cellsL, Value.cells, List.toList_toArray, List.set_cons_zero, List.set_cons_succ, spliceL, List.take_succ_cons, List.take_zero, List.drop_succ_cons, List.drop_zero, List.length_cons, List.length_nil, Nat.reduceAdd, Row.cells, Ses.L] at H
                refine r_call rfl Try.call47 (by simp only [List.map_cons, List.map_nil, List.map_toArray, List.toList_toArray, upd_get, ev, Nat.reduceEqDiff, ↓reduceIte] <;> rfl) (InsS_c (y := ⟨n, num, now⟩) (atS l n) _ (SH.ow H (i := 1) rfl) (SH.ow H (i := 2) rfl) (fun b h1 h2 => (SH.val H).apart (i := 1) (j := 2) rfl rfl (by decide) (.inl trivial) b h2 h1) hal (by omega)) ?_
                rintro _ w8_8 ⟨v8_8, g8_8, rfl, K⟩
                refine ⟨_, rfl, ?_⟩
                replace H := SH.updO H (i := 1) rfl K
                clear K
                try dsimp only [replC, List.cons_append, List.nil_append, List.append_nil, agg, cellsL, Value.cells, List.toList_toArray, List.set_cons_zero, List.set_cons_succ, spliceL, List.take_succ_cons, List.take_zero, List.drop_succ_cons, List.drop_zero, List.length_cons, List.length_nil, Nat.reduceAdd, Row.cells, Ses.L] at H
                refine r_assign rfl ?_
                refine r_assign rfl ?_
                refine LW.nil ?_
                refine thenE_norm ?_
                refine cut (K := K44) [8, 9] (fun σ => ?_)
                simp only [setL, keepE, upd_get, ev, Nat.reduceEqDiff, ↓reduceIte]
                refine h44 _ _ ?_; clear h44; try clear K44
                refine CW.ret (ret2 Try.results29 (by simp only [upd_get, ev, Nat.reduceEqDiff, ↓reduceIte]; rfl) (by simp only [upd_get, ev, Nat.reduceEqDiff, ↓reduceIte]; rfl) ?_)
                first
                  | contradiction
                  | (rw [open_ok hg2_20P (by rw [hf]) (by assumption) (by omega)]; exact ⟨_, _, rfl, (SH.give (SH.sel H [1] (by decide) rfl) (List.Sublist.refl _) (by repeat first | exact trivial | refine ⟨trivial, ?_⟩))⟩)
        · have hg2_40P := hg2_40
          try simp only [decide_eq_true_eq, decide_eq_false_iff_not, Bool.and_eq_true, Bool.or_eq_true, Bool.and_eq_false_iff, Bool.or_eq_false_iff, Bool.not_eq_true', Bool.not_eq_false', beq_iff_eq, bne_iff_ne] at hg2_40P
          refine LW.skip rfl (fun _ e => by cases e; decide) rfl hg2_40 ?_
          refine LW.skip rfl (fun _ e => by cases e; decide) rfl hg2_40 ?_
          refine LW.skip rfl (fun _ e => by cases e; decide) rfl hg2_40 ?_
          refine LW.want rfl rfl hg2_29 ?_
          refine r_pickF rfl rfl hg2_40 ?_
          refine r_pickF rfl rfl hg2_29 ?_
          refine LW.nil ?_
          refine thenE_norm (h4 _ _ ?_); clear h4; try clear K4
          refine CW.cond rfl (fun hc1 => ?_) (fun hc1 => ?_)
          · try simp only [decide_eq_true_eq, decide_eq_false_iff_not, Bool.and_eq_true, Bool.or_eq_true, Bool.and_eq_false_iff, Bool.or_eq_false_iff, Bool.not_eq_true', Bool.not_eq_false', beq_iff_eq, bne_iff_ne, ne_eq, Decidable.not_not] at hc1
            refine CW.seq (fun K45 h45 => ?_)
            refine CW.region ?_
            refine r_assign rfl ?_
            refine r_assign rfl ?_
            refine LW.nil ?_
            refine thenE_norm (h45 _ _ ?_); clear h45; try clear K45
            refine CW.ret (thenE_ret (ret2 Try.results29 (by simp only [upd_get, ev, Nat.reduceEqDiff, ↓reduceIte]; rfl) (by simp only [upd_get, ev, Nat.reduceEqDiff, ↓reduceIte]; rfl) ?_))
            first
              | contradiction
              | (rw [open_bad hg2_20P]; exact ⟨_, none, rfl, SH.give (H.addO (α := Ses) 52) (by repeat first | exact List.Sublist.refl _ | exact List.nil_sublist _ | apply List.Sublist.cons_cons | apply List.Sublist.cons) ⟨trivial, trivial⟩⟩)
              | (rw [open_dupN (by rw [hf]) hg2_29]; exact ⟨_, none, rfl, SH.give (H.addO (α := Ses) 52) (by repeat first | exact List.Sublist.refl _ | exact List.nil_sublist _ | apply List.Sublist.cons_cons | apply List.Sublist.cons) ⟨trivial, trivial⟩⟩)
              | (rw [open_dupY (by rw [hf]) (by rw [hf]; exact hg2_40P.2) hc1]; exact ⟨_, none, rfl, SH.give (H.addO (α := Ses) 52) (by repeat first | exact List.Sublist.refl _ | exact List.nil_sublist _ | apply List.Sublist.cons_cons | apply List.Sublist.cons) ⟨trivial, trivial⟩⟩)
          · try simp only [decide_eq_true_eq, decide_eq_false_iff_not, Bool.and_eq_true, Bool.or_eq_true, Bool.and_eq_false_iff, Bool.or_eq_false_iff, Bool.not_eq_true', Bool.not_eq_false', beq_iff_eq, bne_iff_ne, ne_eq, Decidable.not_not] at hc1
            refine CW.skip ?_
            refine thenE_norm (h3 _ _ ?_); clear h3; try clear K3
            refine CW.seq (fun K46 h46 => ?_)
            refine CW.seq (fun K47 h47 => ?_)
            refine CW.region ?_
            refine r_move rfl ?_
            refine LW.nil ?_
            refine thenE_norm (h47 _ _ ?_); clear h47; try clear K47
            refine CW.cond rfl (fun hc2 => ?_) (fun hc2 => ?_)
            · try simp only [decide_eq_true_eq, decide_eq_false_iff_not, Bool.and_eq_true, Bool.or_eq_true, Bool.and_eq_false_iff, Bool.or_eq_false_iff, Bool.not_eq_true', Bool.not_eq_false', beq_iff_eq, bne_iff_ne, ne_eq, Decidable.not_not] at hc2
              refine CW.seq (fun K48 h48 => ?_)
              refine CW.region ?_
              refine r_assign rfl ?_
              refine r_assign rfl ?_
              refine LW.nil ?_
              refine thenE_norm (h48 _ _ ?_); clear h48; try clear K48
              refine CW.ret (thenE_ret (ret2 Try.results29 (by simp only [upd_get, ev, Nat.reduceEqDiff, ↓reduceIte]; rfl) (by simp only [upd_get, ev, Nat.reduceEqDiff, ↓reduceIte]; rfl) ?_))
              first
                | contradiction
                | (rw [open_twice hg2_20P (by rw [hf]) (.inr hc1)]; exact ⟨_, none, rfl, SH.give (H.addO (α := Ses) 52) (by repeat first | exact List.Sublist.refl _ | exact List.nil_sublist _ | apply List.Sublist.cons_cons | apply List.Sublist.cons) ⟨trivial, trivial⟩⟩)
                | (rw [open_twice hg2_20P (by rw [hf]) (.inl (by rw [hf]; simpa using hg2_40P))]; exact ⟨_, none, rfl, SH.give (H.addO (α := Ses) 52) (by repeat first | exact List.Sublist.refl _ | exact List.nil_sublist _ | apply List.Sublist.cons_cons | apply List.Sublist.cons) ⟨trivial, trivial⟩⟩)
            · try simp only [decide_eq_true_eq, decide_eq_false_iff_not, Bool.and_eq_true, Bool.or_eq_true, Bool.and_eq_false_iff, Bool.or_eq_false_iff, Bool.not_eq_true', Bool.not_eq_false', beq_iff_eq, bne_iff_ne, ne_eq, Decidable.not_not] at hc2
              refine CW.skip ?_
              refine thenE_norm (h46 _ _ ?_); clear h46; try clear K46
              refine CW.seq (fun K49 h49 => ?_)
              refine CW.seq (fun K50 h50 => ?_)
              refine CW.region ?_
              refine r_move rfl ?_
              first
                | refine r_lenV rfl Try.underlying48 (by simp only [upd_get, ev, Nat.reduceEqDiff, ↓reduceIte] <;> rfl) (by first | assumption | exact SH.rsR H (by (repeat first | exact At.here | apply At.there); done) | exact SH.rsO H (by (repeat first | exact At.here | apply At.there); done) | exact Rs.toH (by first | assumption | exact SH.rsR H (by (repeat first | exact At.here | apply At.there); done) | exact SH.rsO H (by (repeat first | exact At.here | apply At.there); done)) (by omega) | exact Rs.toL (by first | assumption | exact SH.rsR H (by (repeat first | exact At.here | apply At.there); done) | exact SH.rsO H (by (repeat first | exact At.here | apply At.there); done)) (by omega) | exact Rs.toLH (by first | assumption | exact SH.rsR H (by (repeat first | exact At.here | apply At.there); done) | exact SH.rsO H (by (repeat first | exact At.here | apply At.there); done)) (by omega) (by omega) | exact (Rs.nil : Rs Non _ _ _)) ?_
                | refine r_len rfl Try.underlying48 rfl ?_
              refine r_geq rfl rfl rfl ?_
              refine LW.nil ?_
              refine thenE_norm (h50 _ _ ?_); clear h50; try clear K50
              refine CW.cond rfl (fun hc3 => ?_) (fun hc3 => ?_)
              · try simp only [decide_eq_true_eq, decide_eq_false_iff_not, Bool.and_eq_true, Bool.or_eq_true, Bool.and_eq_false_iff, Bool.or_eq_false_iff, Bool.not_eq_true', Bool.not_eq_false', beq_iff_eq, bne_iff_ne, ne_eq, Decidable.not_not] at hc3
                refine CW.seq (fun K51 h51 => ?_)
                refine CW.region ?_
                refine r_assign rfl ?_
                refine r_assign rfl ?_
                refine LW.nil ?_
                refine thenE_norm ?_
                refine cut (K := K51) [8, 9] (fun σ => ?_)
                simp only [setL, keepE, upd_get, ev, Nat.reduceEqDiff, ↓reduceIte]
                refine h51 _ _ ?_; clear h51; try clear K51
                refine CW.ret (thenE_ret (ret2 Try.results29 (by simp only [upd_get, ev, Nat.reduceEqDiff, ↓reduceIte]; rfl) (by simp only [upd_get, ev, Nat.reduceEqDiff, ↓reduceIte]; rfl) ?_))
                first
                  | contradiction
                  | (rw [open_full hg2_20P (by rw [hf]) (by assumption) (by omega)]; exact ⟨_, none, rfl, SH.give (H.addO (α := Ses) 52) (by repeat first | exact List.Sublist.refl _ | exact List.nil_sublist _ | apply List.Sublist.cons_cons | apply List.Sublist.cons) ⟨trivial, trivial⟩⟩)
              · try simp only [decide_eq_true_eq, decide_eq_false_iff_not, Bool.and_eq_true, Bool.or_eq_true, Bool.and_eq_false_iff, Bool.or_eq_false_iff, Bool.not_eq_true', Bool.not_eq_false', beq_iff_eq, bne_iff_ne, ne_eq, Decidable.not_not] at hc3
                refine CW.skip ?_
                refine thenE_norm (h49 _ _ ?_); clear h49; try clear K49
                refine CW.seq (fun K52 h52 => ?_)
                refine CW.region ?_
                refine r_move rfl ?_
                refine r_call rfl Try.call44 (by simp only [List.map_cons, List.map_nil, List.map_toArray, List.toList_toArray, upd_get, ev, Nat.reduceEqDiff, ↓reduceIte] <;> rfl) (CloneS_c _ (by first | assumption | exact SH.rsR H (by (repeat first | exact At.here | apply At.there); done) | exact SH.rsO H (by (repeat first | exact At.here | apply At.there); done) | exact Rs.toH (by first | assumption | exact SH.rsR H (by (repeat first | exact At.here | apply At.there); done) | exact SH.rsO H (by (repeat first | exact At.here | apply At.there); done)) (by omega) | exact Rs.toL (by first | assumption | exact SH.rsR H (by (repeat first | exact At.here | apply At.there); done) | exact SH.rsO H (by (repeat first | exact At.here | apply At.there); done)) (by omega) | exact Rs.toLH (by first | assumption | exact SH.rsR H (by (repeat first | exact At.here | apply At.there); done) | exact SH.rsO H (by (repeat first | exact At.here | apply At.there); done)) (by omega) (by omega) | exact (Rs.nil : Rs Non _ _ _)) (by first | omega | (simp only [List.length_append, List.length_cons, List.length_nil]; omega) | (simp; omega))) ?_
                rintro _ w8_1 ⟨v8_1, g8_1, rfl, K⟩
                refine ⟨_, rfl, ?_⟩
                replace H := SH.call H K
                clear K
                try dsimp only [replC, List.cons_append, List.nil_append, List.append_nil, agg, cellsL, Value.cells, List.toList_toArray, List.set_cons_zero, List.set_cons_succ, spliceL, List.take_succ_cons, List.take_zero, List.drop_succ_cons, List.drop_zero, List.length_cons, List.length_nil, Nat.reduceAdd, Row.cells, Ses.L] at H
                refine r_move rfl ?_
                refine r_move rfl ?_
                refine r_move rfl ?_
                refine r_move rfl ?_
                refine r_buildQ rfl Try.underlying52 Try.zeroValue52 rfl (pl := [(0, 1), (1, 1), (2, 1)]) (by intro w; simp [go_sem]) (qs := [(0, [_]), (1, [_]), (2, [_])]) (cs := [_, _, _]) ⟨rfl, cells_one (by simp only [upd_get, ev, Nat.reduceEqDiff, ↓reduceIte] <;> rfl) (by first | rfl | exact Rs.oneC (by first | assumption | exact SH.rsR H (by (repeat first | exact At.here | apply At.there); done) | exact SH.rsO H (by (repeat first | exact At.here | apply At.there); done) | exact Rs.toH (by first | assumption | exact SH.rsR H (by (repeat first | exact At.here | apply At.there); done) | exact SH.rsO H (by (repeat first | exact At.here | apply At.there); done)) (by omega) | exact Rs.toL (by first | assumption | exact SH.rsR H (by (repeat first | exact At.here | apply At.there); done) | exact SH.rsO H (by (repeat first | exact At.here | apply At.there); done)) (by omega) | exact Rs.toLH (by first | assumption | exact SH.rsR H (by (repeat first | exact At.here | apply At.there); done) | exact SH.rsO H (by (repeat first | exact At.here | apply At.there); done)) (by omega) (by omega) | exact (Rs.nil : Rs Non _ _ _))), rfl, cells_one (by simp only [upd_get, ev, Nat.reduceEqDiff, ↓reduceIte] <;> rfl) (by first | rfl | exact Rs.oneC (by first | assumption | exact SH.rsR H (by (repeat first | exact At.here | apply At.there); done) | exact SH.rsO H (by (repeat first | exact At.here | apply At.there); done) | exact Rs.toH (by first | assumption | exact SH.rsR H (by (repeat first | exact At.here | apply At.there); done) | exact SH.rsO H (by (repeat first | exact At.here | apply At.there); done)) (by omega) | exact Rs.toL (by first | assumption | exact SH.rsR H (by (repeat first | exact At.here | apply At.there); done) | exact SH.rsO H (by (repeat first | exact At.here | apply At.there); done)) (by omega) | exact Rs.toLH (by first | assumption | exact SH.rsR H (by (repeat first | exact At.here | apply At.there); done) | exact SH.rsO H (by (repeat first | exact At.here | apply At.there); done)) (by omega) (by omega) | exact (Rs.nil : Rs Non _ _ _))), rfl, cells_one (by simp only [upd_get, ev, Nat.reduceEqDiff, ↓reduceIte] <;> rfl) (by first | rfl | exact Rs.oneC (by first | assumption | exact SH.rsR H (by (repeat first | exact At.here | apply At.there); done) | exact SH.rsO H (by (repeat first | exact At.here | apply At.there); done) | exact Rs.toH (by first | assumption | exact SH.rsR H (by (repeat first | exact At.here | apply At.there); done) | exact SH.rsO H (by (repeat first | exact At.here | apply At.there); done)) (by omega) | exact Rs.toL (by first | assumption | exact SH.rsR H (by (repeat first | exact At.here | apply At.there); done) | exact SH.rsO H (by (repeat first | exact At.here | apply At.there); done)) (by omega) | exact Rs.toLH (by first | assumption | exact SH.rsR H (by (repeat first | exact At.here | apply At.there); done) | exact SH.rsO H (by (repeat first | exact At.here | apply At.there); done)) (by omega) (by omega) | exact (Rs.nil : Rs Non _ _ _))), trivial⟩ rfl ?_
                refine r_buildSliceA (vs := [_]) rfl Try.underlying48 Try.sizeOf52 Try.zeroValue52 rfl rfl rfl rfl (by simp only [List.map_cons, List.map_nil, List.toList_toArray, numbered, Nat.reduceAdd, upd_get, ev, Nat.reduceEqDiff, ↓reduceIte] <;> rfl) rfl (by intro v hv; simp only [List.mem_cons, List.not_mem_nil, or_false] at hv; rcases hv with rfl <;> rfl) ?_
                intro b8_7 w8_7 hb8_7 hs8_7 hE8_7 hB8_7
                replace H := SH.call H (SH.fromB hE8_7 hb8_7 hs8_7 hB8_7)
                clear hb8_7 hs8_7 hE8_7 hB8_7
                try dsimp only [replC, List.cons_append, List.nil_append, List.append_nil, agg, cellsL, Value.cells, List.toList_toArray, List.set_cons_zero, List.set_cons_succ, spliceL, List.take_succ_cons, List.take_zero, List.drop_succ_cons, List.drop_zero, List.length_cons, List.length_nil, Nat.reduceAdd, Row.cells, Ses.L] at H
                replace H := SH.row (b := b8_7) (xs := ([⟨n, num, now⟩] : List Ses)) (n := 1) (cap := 1) H (by (repeat first | exact At.here | apply At.there); done) (by simp only [flat, List.flatMap_cons, List.flatMap_nil, cellsL, agg, List.append_nil, List.cons_append, List.nil_append, List.toList_toArray, Row.cells, Ses.L] <;> rfl) (by intro x hx; first | rfl | (simp at hx; done) | (simp only [List.mem_cons, List.not_mem_nil, or_false] at hx; rcases hx with rfl <;> first | rfl | exact (by first | rfl | exact Rs.oneC (by first | assumption | exact SH.rsR H (by (repeat first | exact At.here | apply At.there); done) | exact SH.rsO H (by (repeat first | exact At.here | apply At.there); done) | exact Rs.toH (by first | assumption | exact SH.rsR H (by (repeat first | exact At.here | apply At.there); done) | exact SH.rsO H (by (repeat first | exact At.here | apply At.there); done)) (by omega) | exact Rs.toL (by first | assumption | exact SH.rsR H (by (repeat first | exact At.here | apply At.there); done) | exact SH.rsO H (by (repeat first | exact At.here | apply At.there); done)) (by omega) | exact Rs.toLH (by first | assumption | exact SH.rsR H (by (repeat first | exact At.here | apply At.there); done) | exact SH.rsO H (by (repeat first | exact At.here | apply At.there); done)) (by omega) (by omega) | exact (Rs.nil : Rs Non _ _ _)) | (simp only [List.all_cons, List.all_nil, Bool.and_true, Bool.and_eq_true, Row.cells, Ses.L]; (repeat' constructor) <;> first | rfl | exact Rs.oneC (by first | assumption | exact SH.rsR H (by (repeat first | exact At.here | apply At.there); done) | exact SH.rsO H (by (repeat first | exact At.here | apply At.there); done) | exact Rs.toH (by first | assumption | exact SH.rsR H (by (repeat first | exact At.here | apply At.there); done) | exact SH.rsO H (by (repeat first | exact At.here | apply At.there); done)) (by omega) | exact Rs.toL (by first | assumption | exact SH.rsR H (by (repeat first | exact At.here | apply At.there); done) | exact SH.rsO H (by (repeat first | exact At.here | apply At.there); done)) (by omega) | exact Rs.toLH (by first | assumption | exact SH.rsR H (by (repeat first | exact At.here | apply At.there); done) | exact SH.rsO H (by (repeat first | exact At.here | apply At.there); done)) (by omega) (by omega) | exact (Rs.nil : Rs Non _ _ _)))))) (by rfl) rfl (by decide)
                try dsimp only [replC, List.cons_append, List.nil_append, List.append_nil, agg, cellsL, Value.cells, List.toList_toArray, List.set_cons_zero, List.set_cons_succ, spliceL, List.take_succ_cons, List.take_zero, List.drop_succ_cons, List.drop_zero, List.length_cons, List.length_nil, Nat.reduceAdd, Row.cells, Ses.L] at H
                refine r_call rfl Try.call47 (by simp only [List.map_cons, List.map_nil, List.map_toArray, List.toList_toArray, upd_get, ev, Nat.reduceEqDiff, ↓reduceIte] <;> rfl) (InsS_c (y := ⟨n, num, now⟩) (atS l n) _ (SH.ow H (i := 1) rfl) (SH.ow H (i := 2) rfl) (fun b h1 h2 => (SH.val H).apart (i := 1) (j := 2) rfl rfl (by decide) (.inl trivial) b h2 h1) hal (by omega)) ?_
                rintro _ w8_8 ⟨v8_8, g8_8, rfl, K⟩
                refine ⟨_, rfl, ?_⟩
                replace H := SH.updO H (i := 1) rfl K
                clear K
                try dsimp only [replC, List.cons_append, List.nil_append, List.append_nil, agg, cellsL, Value.cells, List.toList_toArray, List.set_cons_zero, List.set_cons_succ, spliceL, List.take_succ_cons, List.take_zero, List.drop_succ_cons, List.drop_zero, List.length_cons, List.length_nil, Nat.reduceAdd, Row.cells, Ses.L] at H
                refine r_assign rfl ?_
                refine r_assign rfl ?_
                refine LW.nil ?_
                refine thenE_norm ?_
                refine cut (K := K52) [8, 9] (fun σ => ?_)
                simp only [setL, keepE, upd_get, ev, Nat.reduceEqDiff, ↓reduceIte]
                refine h52 _ _ ?_; clear h52; try clear K52
                refine CW.ret (ret2 Try.results29 (by simp only [upd_get, ev, Nat.reduceEqDiff, ↓reduceIte]; rfl) (by simp only [upd_get, ev, Nat.reduceEqDiff, ↓reduceIte]; rfl) ?_)
                first
                  | contradiction
                  | (rw [open_ok hg2_20P (by rw [hf]) (by assumption) (by omega)]; exact ⟨_, _, rfl, (SH.give (SH.sel H [1] (by decide) rfl) (List.Sublist.refl _) (by repeat first | exact trivial | refine ⟨trivial, ?_⟩))⟩)
  · rw [hin]
    refine CW.region ?_
    refine r_move rfl ?_
    refine r_call rfl Try.call45 (by simp only [List.map_cons, List.map_nil, List.map_toArray, List.toList_toArray, upd_get, ev, Nat.reduceEqDiff, ↓reduceIte] <;> rfl) (isClient_c _ _) ?_
    rintro _ _ ⟨rfl, rfl⟩
    refine ⟨_, rfl, ?_⟩
    refine r_not rfl rfl ?_
    refine r_move rfl ?_
    refine' LW.grpOr (n := 3) (ts := [0, 1, 2, 3, 10, 11, 25, 29, 33, 37, 40, 46, 48, 57]) (d := 24) (tj := 21) rfl (fun hg2_4 => ?_) (fun hg2_4 => ?_) (fun σ => ?_)
    rotate_left
    · simp only [List.take_succ_cons, List.take_zero]
      have hg2_4P := hg2_4
      try simp only [decide_eq_true_eq, decide_eq_false_iff_not, Bool.and_eq_true, Bool.or_eq_true, Bool.and_eq_false_iff, Bool.or_eq_false_iff, Bool.not_eq_true', Bool.not_eq_false', beq_iff_eq, bne_iff_ne] at hg2_4P
      refine LW.want rfl rfl hg2_4 ?_
      refine r_move rfl ?_
      refine LW.want rfl rfl hg2_4 ?_
      refine r_lss rfl rfl rfl ?_
      refine r_pickF rfl rfl hg2_4 ?_
      refine LW.nil (thenE_norm ⟨rfl, rfl, rfl⟩)
    · simp only [List.take_succ_cons, List.take_zero]
      refine LW.skip rfl (fun _ e => by cases e; decide) rfl hg2_4 ?_
      refine LW.skip rfl (fun _ e => by cases e; decide) rfl hg2_4 ?_
      refine r_pickT rfl rfl hg2_4 ?_
      refine LW.nil (thenE_norm ⟨rfl, rfl, rfl⟩)
    simp only [setL, keepE, upd_get, ev, Nat.reduceEqDiff, ↓reduceIte]; simp only [List.drop_succ_cons, List.drop_zero]
    refine r_move rfl ?_
    refine' LW.grpOr (n := 3) (ts := [0, 1, 2, 3, 10, 11, 29, 33, 37, 40, 46, 48, 57]) (d := 28) (tj := 25) rfl (fun hg2_8 => ?_) (fun hg2_8 => ?_) (fun σ => ?_)
    rotate_left
    · simp only [List.take_succ_cons, List.take_zero]
      have hg2_8P := hg2_8
      try simp only [decide_eq_true_eq, decide_eq_false_iff_not, Bool.and_eq_true, Bool.or_eq_true, Bool.and_eq_false_iff, Bool.or_eq_false_iff, Bool.not_eq_true', Bool.not_eq_false', beq_iff_eq, bne_iff_ne] at hg2_8P
      refine LW.want rfl rfl hg2_8 ?_
      refine r_move rfl ?_
      refine LW.want rfl rfl hg2_8 ?_
      refine r_gtr rfl rfl rfl ?_
      refine r_pickF rfl rfl hg2_8 ?_
      refine LW.nil (thenE_norm ⟨rfl, rfl, rfl⟩)
    · simp only [List.take_succ_cons, List.take_zero]
      refine LW.skip rfl (fun _ e => by cases e; decide) rfl hg2_8 ?_
      refine LW.skip rfl (fun _ e => by cases e; decide) rfl hg2_8 ?_
      refine r_pickT rfl rfl hg2_8 ?_
      refine LW.nil (thenE_norm ⟨rfl, rfl, rfl⟩)
    simp only [setL, keepE, upd_get, ev, Nat.reduceEqDiff, ↓reduceIte]; simp only [List.drop_succ_cons, List.drop_zero]
    refine r_move rfl ?_
    refine' LW.grpOr (n := 3) (ts := [0, 1, 2, 3, 10, 11, 33, 37, 40, 46, 48, 57]) (d := 32) (tj := 29) rfl (fun hg2_12 => ?_) (fun hg2_12 => ?_) (fun σ => ?_)
    rotate_left
    · simp only [List.take_succ_cons, List.take_zero]
      have hg2_12P := hg2_12
      try simp only [decide_eq_true_eq, decide_eq_false_iff_not, Bool.and_eq_true, Bool.or_eq_true, Bool.and_eq_false_iff, Bool.or_eq_false_iff, Bool.not_eq_true', Bool.not_eq_false', beq_iff_eq, bne_iff_ne] at hg2_12P
      refine LW.want rfl rfl hg2_12 ?_
      refine r_move rfl ?_
      refine LW.want rfl rfl hg2_12 ?_
      refine r_lss rfl rfl rfl ?_
      refine r_pickF rfl rfl hg2_12 ?_
      refine LW.nil (thenE_norm ⟨rfl, rfl, rfl⟩)
    · simp only [List.take_succ_cons, List.take_zero]
      refine LW.skip rfl (fun _ e => by cases e; decide) rfl hg2_12 ?_
      refine LW.skip rfl (fun _ e => by cases e; decide) rfl hg2_12 ?_
      refine r_pickT rfl rfl hg2_12 ?_
      refine LW.nil (thenE_norm ⟨rfl, rfl, rfl⟩)
    simp only [setL, keepE, upd_get, ev, Nat.reduceEqDiff, ↓reduceIte]; simp only [List.drop_succ_cons, List.drop_zero]
    refine r_move rfl ?_
    refine' LW.grpOr (n := 3) (ts := [0, 1, 2, 3, 10, 11, 37, 40, 46, 48, 57]) (d := 36) (tj := 33) rfl (fun hg2_16 => ?_) (fun hg2_16 => ?_) (fun σ => ?_)
    rotate_left
    · simp only [List.take_succ_cons, List.take_zero]
      have hg2_16P := hg2_16
      try simp only [decide_eq_true_eq, decide_eq_false_iff_not, Bool.and_eq_true, Bool.or_eq_true, Bool.and_eq_false_iff, Bool.or_eq_false_iff, Bool.not_eq_true', Bool.not_eq_false', beq_iff_eq, bne_iff_ne] at hg2_16P
      refine LW.want rfl rfl hg2_16 ?_
      refine r_move rfl ?_
      refine LW.want rfl rfl hg2_16 ?_
      refine r_gtr rfl rfl rfl ?_
      refine r_pickF rfl rfl hg2_16 ?_
      refine LW.nil (thenE_norm ⟨rfl, rfl, rfl⟩)
    · simp only [List.take_succ_cons, List.take_zero]
      refine LW.skip rfl (fun _ e => by cases e; decide) rfl hg2_16 ?_
      refine LW.skip rfl (fun _ e => by cases e; decide) rfl hg2_16 ?_
      refine r_pickT rfl rfl hg2_16 ?_
      refine LW.nil (thenE_norm ⟨rfl, rfl, rfl⟩)
    simp only [setL, keepE, upd_get, ev, Nat.reduceEqDiff, ↓reduceIte]; simp only [List.drop_succ_cons, List.drop_zero]
    refine r_move rfl ?_
    refine LW.splitB (t := 37) rfl (fun hg2_20 => ?_) (fun hg2_20 => ?_)
    · have hg2_20P := hg2_20
      try simp only [decide_eq_true_eq, decide_eq_false_iff_not, Bool.and_eq_true, Bool.or_eq_true, Bool.and_eq_false_iff, Bool.or_eq_false_iff, Bool.not_eq_true', Bool.not_eq_false', beq_iff_eq, bne_iff_ne] at hg2_20P
      refine LW.skip rfl (fun _ e => by cases e; decide) rfl hg2_20 ?_
      refine LW.skip rfl (fun _ e => by cases e; decide) rfl hg2_20 ?_
      refine LW.skip rfl (fun _ e => by cases e; decide) rfl hg2_20 ?_
      refine LW.skipU rfl (fun _ e => by cases e; decide) rfl ?_
      refine LW.skipU rfl (fun _ e => by cases e; decide) rfl ?_
      refine LW.skipU rfl (fun _ e => by cases e; decide) rfl ?_
      refine LW.skip rfl (fun _ e => by cases e; decide) rfl hg2_20 ?_
      refine r_pickT rfl rfl hg2_20 ?_
      refine r_move rfl ?_
      refine LW.splitB (t := 46) rfl (fun hg2_29 => ?_) (fun hg2_29 => ?_)
      · have hg2_29P := hg2_29
        try simp only [decide_eq_true_eq, decide_eq_false_iff_not, Bool.and_eq_true, Bool.or_eq_true, Bool.and_eq_false_iff, Bool.or_eq_false_iff, Bool.not_eq_true', Bool.not_eq_false', beq_iff_eq, bne_iff_ne] at hg2_29P
        refine LW.skip rfl (fun _ e => by cases e; decide) rfl hg2_29 ?_
        refine LW.skip rfl (fun _ e => by cases e; decide) rfl hg2_29 ?_
        refine LW.skipU rfl (fun _ e => by cases e; decide) rfl ?_
        refine LW.skipU rfl (fun _ e => by cases e; decide) rfl ?_
        refine LW.skipU rfl (fun _ e => by cases e; decide) rfl ?_
        refine LW.skipU rfl (fun _ e => by cases e; decide) rfl ?_
        refine LW.skipU rfl (fun _ e => by cases e; decide) rfl ?_
        refine LW.skipU rfl (fun _ e => by cases e; decide) rfl ?_
        refine LW.skipU rfl (fun _ e => by cases e; decide) rfl ?_
        refine LW.skip rfl (fun _ e => by cases e; decide) rfl hg2_29 ?_
        refine LW.skip rfl (fun _ e => by cases e; decide) rfl hg2_29 ?_
        refine LW.skipU rfl (fun _ e => by cases e; decide) rfl ?_
        refine LW.skipU rfl (fun _ e => by cases e; decide) rfl ?_
        refine LW.skipU rfl (fun _ e => by cases e; decide) rfl ?_
        refine LW.skip rfl (fun _ e => by cases e; decide) rfl hg2_29 ?_
        refine r_pickT rfl rfl hg2_29 ?_
        refine LW.nil ?_
        refine thenE_norm (h4 _ _ ?_); clear h4; try clear K4
        refine CW.cond rfl (fun hc1 => ?_) (fun hc1 => ?_)
        · try simp only [decide_eq_true_eq, decide_eq_false_iff_not, Bool.and_eq_true, Bool.or_eq_true, Bool.and_eq_false_iff, Bool.or_eq_false_iff, Bool.not_eq_true', Bool.not_eq_false', beq_iff_eq, bne_iff_ne, ne_eq, Decidable.not_not] at hc1
          refine CW.seq (fun K53 h53 => ?_)
          refine CW.region ?_
          refine r_assign rfl ?_
          refine r_assign rfl ?_
          refine LW.nil ?_
          refine thenE_norm (h53 _ _ ?_); clear h53; try clear K53
          refine CW.ret (thenE_ret (ret2 Try.results29 (by simp only [upd_get, ev, Nat.reduceEqDiff, ↓reduceIte]; rfl) (by simp only [upd_get, ev, Nat.reduceEqDiff, ↓reduceIte]; rfl) ?_))
          first
            | contradiction
            | (rw [open_bad hg2_20P]; exact ⟨_, none, rfl, SH.give (H.addO (α := Ses) 52) (by repeat first | exact List.Sublist.refl _ | exact List.nil_sublist _ | apply List.Sublist.cons_cons | apply List.Sublist.cons) ⟨trivial, trivial⟩⟩)
            | (rw [open_dupN (by rw [hf]) hg2_29]; exact ⟨_, none, rfl, SH.give (H.addO (α := Ses) 52) (by repeat first | exact List.Sublist.refl _ | exact List.nil_sublist _ | apply List.Sublist.cons_cons | apply List.Sublist.cons) ⟨trivial, trivial⟩⟩)
            | (rw [open_dupY (by rw [hf]) (by rw [hf]; exact hg2_40P.2) hc1]; exact ⟨_, none, rfl, SH.give (H.addO (α := Ses) 52) (by repeat first | exact List.Sublist.refl _ | exact List.nil_sublist _ | apply List.Sublist.cons_cons | apply List.Sublist.cons) ⟨trivial, trivial⟩⟩)
        · try simp only [decide_eq_true_eq, decide_eq_false_iff_not, Bool.and_eq_true, Bool.or_eq_true, Bool.and_eq_false_iff, Bool.or_eq_false_iff, Bool.not_eq_true', Bool.not_eq_false', beq_iff_eq, bne_iff_ne, ne_eq, Decidable.not_not] at hc1
          refine CW.skip ?_
          refine thenE_norm (h3 _ _ ?_); clear h3; try clear K3
          refine CW.seq (fun K54 h54 => ?_)
          refine CW.seq (fun K55 h55 => ?_)
          refine CW.region ?_
          refine r_move rfl ?_
          refine LW.nil ?_
          refine thenE_norm (h55 _ _ ?_); clear h55; try clear K55
          refine CW.cond rfl (fun hc2 => ?_) (fun hc2 => ?_)
          · try simp only [decide_eq_true_eq, decide_eq_false_iff_not, Bool.and_eq_true, Bool.or_eq_true, Bool.and_eq_false_iff, Bool.or_eq_false_iff, Bool.not_eq_true', Bool.not_eq_false', beq_iff_eq, bne_iff_ne, ne_eq, Decidable.not_not] at hc2
            refine CW.seq (fun K56 h56 => ?_)
            refine CW.region ?_
            refine r_assign rfl ?_
            refine r_assign rfl ?_
            refine LW.nil ?_
            refine thenE_norm (h56 _ _ ?_); clear h56; try clear K56
            refine CW.ret (thenE_ret (ret2 Try.results29 (by simp only [upd_get, ev, Nat.reduceEqDiff, ↓reduceIte]; rfl) (by simp only [upd_get, ev, Nat.reduceEqDiff, ↓reduceIte]; rfl) ?_))
            first
              | contradiction
              | (rw [open_twice hg2_20P (by rw [hf]) (.inr hc1)]; exact ⟨_, none, rfl, SH.give (H.addO (α := Ses) 52) (by repeat first | exact List.Sublist.refl _ | exact List.nil_sublist _ | apply List.Sublist.cons_cons | apply List.Sublist.cons) ⟨trivial, trivial⟩⟩)
              | (rw [open_twice hg2_20P (by rw [hf]) (.inl (by rw [hf]; simpa using hg2_40P))]; exact ⟨_, none, rfl, SH.give (H.addO (α := Ses) 52) (by repeat first | exact List.Sublist.refl _ | exact List.nil_sublist _ | apply List.Sublist.cons_cons | apply List.Sublist.cons) ⟨trivial, trivial⟩⟩)
          · try simp only [decide_eq_true_eq, decide_eq_false_iff_not, Bool.and_eq_true, Bool.or_eq_true, Bool.and_eq_false_iff, Bool.or_eq_false_iff, Bool.not_eq_true', Bool.not_eq_false', beq_iff_eq, bne_iff_ne, ne_eq, Decidable.not_not] at hc2
            refine CW.skip ?_
            refine thenE_norm (h54 _ _ ?_); clear h54; try clear K54
            refine CW.seq (fun K57 h57 => ?_)
            refine CW.seq (fun K58 h58 => ?_)
            refine CW.region ?_
            refine r_move rfl ?_
            first
              | refine r_lenV rfl Try.underlying48 (by simp only [upd_get, ev, Nat.reduceEqDiff, ↓reduceIte] <;> rfl) (by first | assumption | exact SH.rsR H (by (repeat first | exact At.here | apply At.there); done) | exact SH.rsO H (by (repeat first | exact At.here | apply At.there); done) | exact Rs.toH (by first | assumption | exact SH.rsR H (by (repeat first | exact At.here | apply At.there); done) | exact SH.rsO H (by (repeat first | exact At.here | apply At.there); done)) (by omega) | exact Rs.toL (by first | assumption | exact SH.rsR H (by (repeat first | exact At.here | apply At.there); done) | exact SH.rsO H (by (repeat first | exact At.here | apply At.there); done)) (by omega) | exact Rs.toLH (by first | assumption | exact SH.rsR H (by (repeat first | exact At.here | apply At.there); done) | exact SH.rsO H (by (repeat first | exact At.here | apply At.there); done)) (by omega) (by omega) | exact (Rs.nil : Rs Non _ _ _)) ?_
              | refine r_len rfl Try.underlying48 rfl ?_
            refine r_geq rfl rfl rfl ?_
            refine LW.nil ?_
            refine thenE_norm ?_
            refine cut (K := K58) [0, 1, 2, 3, 10, 66] (fun σ => ?_)
            simp only [setL, keepE, upd_get, ev, Nat.reduceEqDiff, ↓reduceIte]
            refine h58 _ _ ?_; clear h58; try clear K58
            refine CW.cond rfl (fun hc3 => ?_) (fun hc3 => ?_)
            · try simp only [decide_eq_true_eq, decide_eq_false_iff_not, Bool.and_eq_true, Bool.or_eq_true, Bool.and_eq_false_iff, Bool.or_eq_false_iff, Bool.not_eq_true', Bool.not_eq_false', beq_iff_eq, bne_iff_ne, ne_eq, Decidable.not_not] at hc3
              refine CW.seq (fun K59 h59 => ?_)
              refine CW.region ?_
              refine r_assign rfl ?_
              refine r_assign rfl ?_
              refine LW.nil ?_
              refine thenE_norm (h59 _ _ ?_); clear h59; try clear K59
              refine CW.ret (thenE_ret (ret2 Try.results29 (by simp only [upd_get, ev, Nat.reduceEqDiff, ↓reduceIte]; rfl) (by simp only [upd_get, ev, Nat.reduceEqDiff, ↓reduceIte]; rfl) ?_))
              first
                | contradiction
                | (rw [open_full hg2_20P (by rw [hf]) (by assumption) (by omega)]; exact ⟨_, none, rfl, SH.give (H.addO (α := Ses) 52) (by repeat first | exact List.Sublist.refl _ | exact List.nil_sublist _ | apply List.Sublist.cons_cons | apply List.Sublist.cons) ⟨trivial, trivial⟩⟩)
            · try simp only [decide_eq_true_eq, decide_eq_false_iff_not, Bool.and_eq_true, Bool.or_eq_true, Bool.and_eq_false_iff, Bool.or_eq_false_iff, Bool.not_eq_true', Bool.not_eq_false', beq_iff_eq, bne_iff_ne, ne_eq, Decidable.not_not] at hc3
              refine CW.skip ?_
              refine thenE_norm (h57 _ _ ?_); clear h57; try clear K57
              refine CW.seq (fun K60 h60 => ?_)
              refine CW.region ?_
              refine r_move rfl ?_
              refine r_call rfl Try.call44 (by simp only [List.map_cons, List.map_nil, List.map_toArray, List.toList_toArray, upd_get, ev, Nat.reduceEqDiff, ↓reduceIte] <;> rfl) (CloneS_c _ (by first | assumption | exact SH.rsR H (by (repeat first | exact At.here | apply At.there); done) | exact SH.rsO H (by (repeat first | exact At.here | apply At.there); done) | exact Rs.toH (by first | assumption | exact SH.rsR H (by (repeat first | exact At.here | apply At.there); done) | exact SH.rsO H (by (repeat first | exact At.here | apply At.there); done)) (by omega) | exact Rs.toL (by first | assumption | exact SH.rsR H (by (repeat first | exact At.here | apply At.there); done) | exact SH.rsO H (by (repeat first | exact At.here | apply At.there); done)) (by omega) | exact Rs.toLH (by first | assumption | exact SH.rsR H (by (repeat first | exact At.here | apply At.there); done) | exact SH.rsO H (by (repeat first | exact At.here | apply At.there); done)) (by omega) (by omega) | exact (Rs.nil : Rs Non _ _ _)) (by first | omega | (simp only [List.length_append, List.length_cons, List.length_nil]; omega) | (simp; omega))) ?_
              rintro _ w8_1 ⟨v8_1, g8_1, rfl, K⟩
              refine ⟨_, rfl, ?_⟩
              replace H := SH.call H K
              clear K
              try dsimp only [replC, List.cons_append, List.nil_append, List.append_nil, agg, cellsL, Value.cells, List.toList_toArray, List.set_cons_zero, List.set_cons_succ, spliceL, List.take_succ_cons, List.take_zero, List.drop_succ_cons, List.drop_zero, List.length_cons, List.length_nil, Nat.reduceAdd, Row.cells, Ses.L] at H
              refine r_move rfl ?_
              refine r_move rfl ?_
              refine r_move rfl ?_
              refine r_move rfl ?_
              refine r_buildQ rfl Try.underlying52 Try.zeroValue52 rfl (pl := [(0, 1), (1, 1), (2, 1)]) (by intro w; simp [go_sem]) (qs := [(0, [_]), (1, [_]), (2, [_])]) (cs := [_, _, _]) ⟨rfl, cells_one (by simp only [upd_get, ev, Nat.reduceEqDiff, ↓reduceIte] <;> rfl) (by first | rfl | exact Rs.oneC (by first | assumption | exact SH.rsR H (by (repeat first | exact At.here | apply At.there); done) | exact SH.rsO H (by (repeat first | exact At.here | apply At.there); done) | exact Rs.toH (by first | assumption | exact SH.rsR H (by (repeat first | exact At.here | apply At.there); done) | exact SH.rsO H (by (repeat first | exact At.here | apply At.there); done)) (by omega) | exact Rs.toL (by first | assumption | exact SH.rsR H (by (repeat first | exact At.here | apply At.there); done) | exact SH.rsO H (by (repeat first | exact At.here | apply At.there); done)) (by omega) | exact Rs.toLH (by first | assumption | exact SH.rsR H (by (repeat first | exact At.here | apply At.there); done) | exact SH.rsO H (by (repeat first | exact At.here | apply At.there); done)) (by omega) (by omega) | exact (Rs.nil : Rs Non _ _ _))), rfl, cells_one (by simp only [upd_get, ev, Nat.reduceEqDiff, ↓reduceIte] <;> rfl) (by first | rfl | exact Rs.oneC (by first | assumption | exact SH.rsR H (by (repeat first | exact At.here | apply At.there); done) | exact SH.rsO H (by (repeat first | exact At.here | apply At.there); done) | exact Rs.toH (by first | assumption | exact SH.rsR H (by (repeat first | exact At.here | apply At.there); done) | exact SH.rsO H (by (repeat first | exact At.here | apply At.there); done)) (by omega) | exact Rs.toL (by first | assumption | exact SH.rsR H (by (repeat first | exact At.here | apply At.there); done) | exact SH.rsO H (by (repeat first | exact At.here | apply At.there); done)) (by omega) | exact Rs.toLH (by first | assumption | exact SH.rsR H (by (repeat first | exact At.here | apply At.there); done) | exact SH.rsO H (by (repeat first | exact At.here | apply At.there); done)) (by omega) (by omega) | exact (Rs.nil : Rs Non _ _ _))), rfl, cells_one (by simp only [upd_get, ev, Nat.reduceEqDiff, ↓reduceIte] <;> rfl) (by first | rfl | exact Rs.oneC (by first | assumption | exact SH.rsR H (by (repeat first | exact At.here | apply At.there); done) | exact SH.rsO H (by (repeat first | exact At.here | apply At.there); done) | exact Rs.toH (by first | assumption | exact SH.rsR H (by (repeat first | exact At.here | apply At.there); done) | exact SH.rsO H (by (repeat first | exact At.here | apply At.there); done)) (by omega) | exact Rs.toL (by first | assumption | exact SH.rsR H (by (repeat first | exact At.here | apply At.there); done) | exact SH.rsO H (by (repeat first | exact At.here | apply At.there); done)) (by omega) | exact Rs.toLH (by first | assumption | exact SH.rsR H (by (repeat first | exact At.here | apply At.there); done) | exact SH.rsO H (by (repeat first | exact At.here | apply At.there); done)) (by omega) (by omega) | exact (Rs.nil : Rs Non _ _ _))), trivial⟩ rfl ?_
              refine r_buildSliceA (vs := [_]) rfl Try.underlying48 Try.sizeOf52 Try.zeroValue52 rfl rfl rfl rfl (by simp only [List.map_cons, List.map_nil, List.toList_toArray, numbered, Nat.reduceAdd, upd_get, ev, Nat.reduceEqDiff, ↓reduceIte] <;> rfl) rfl (by intro v hv; simp only [List.mem_cons, List.not_mem_nil, or_false] at hv; rcases hv with rfl <;> rfl) ?_
              intro b8_7 w8_7 hb8_7 hs8_7 hE8_7 hB8_7
              replace H := SH.call H (SH.fromB hE8_7 hb8_7 hs8_7 hB8_7)
              clear hb8_7 hs8_7 hE8_7 hB8_7
              try dsimp only [replC, List.cons_append, List.nil_append, List.append_nil, agg, cellsL, Value.cells, List.toList_toArray, List.set_cons_zero, List.set_cons_succ, spliceL, List.take_succ_cons, List.take_zero, List.drop_succ_cons, List.drop_zero, List.length_cons, List.length_nil, Nat.reduceAdd, Row.cells, Ses.L] at H
              replace H := SH.row (b := b8_7) (xs := ([⟨n, num, now⟩] : List Ses)) (n := 1) (cap := 1) H (by (repeat first | exact At.here | apply At.there); done) (by simp only [flat, List.flatMap_cons, List.flatMap_nil, cellsL, agg, List.append_nil, List.cons_append, List.nil_append, List.toList_toArray, Row.cells, Ses.L] <;> rfl) (by intro x hx; first | rfl | (simp at hx; done) | (simp only [List.mem_cons, List.not_mem_nil, or_false] at hx; rcases hx with rfl <;> first | rfl | exact (by first | rfl | exact Rs.oneC (by first | assumption | exact SH.rsR H (by (repeat first | exact At.here | apply At.there); done) | exact SH.rsO H (by (repeat first | exact At.here | apply At.there); done) | exact Rs.toH (by first | assumption | exact SH.rsR H (by (repeat first | exact At.here | apply At.there); done) | exact SH.rsO H (by (repeat first | exact At.here | apply At.there); done)) (by omega) | exact Rs.toL (by first | assumption | exact SH.rsR H (by (repeat first | exact At.here | apply At.there); done) | exact SH.rsO H (by (repeat first | exact At.here | apply At.there); done)) (by omega) | exact Rs.toLH (by first | assumption | exact SH.rsR H (by (repeat first | exact At.here | apply At.there); done) | exact SH.rsO H (by (repeat first | exact At.here | apply At.there); done)) (by omega) (by omega) | exact (Rs.nil : Rs Non _ _ _)) | (simp only [List.all_cons, List.all_nil, Bool.and_true, Bool.and_eq_true, Row.cells, Ses.L]; (repeat' constructor) <;> first | rfl | exact Rs.oneC (by first | assumption | exact SH.rsR H (by (repeat first | exact At.here | apply At.there); done) | exact SH.rsO H (by (repeat first | exact At.here | apply At.there); done) | exact Rs.toH (by first | assumption | exact SH.rsR H (by (repeat first | exact At.here | apply At.there); done) | exact SH.rsO H (by (repeat first | exact At.here | apply At.there); done)) (by omega) | exact Rs.toL (by first | assumption | exact SH.rsR H (by (repeat first | exact At.here | apply At.there); done) | exact SH.rsO H (by (repeat first | exact At.here | apply At.there); done)) (by omega) | exact Rs.toLH (by first | assumption | exact SH.rsR H (by (repeat first | exact At.here | apply At.there); done) | exact SH.rsO H (by (repeat first | exact At.here | apply At.there); done)) (by omega) (by omega) | exact (Rs.nil : Rs Non _ _ _)))))) (by rfl) rfl (by decide)
              try dsimp only [replC, List.cons_append, List.nil_append, List.append_nil, agg, cellsL, Value.cells, List.toList_toArray, List.set_cons_zero, List.set_cons_succ, spliceL, List.take_succ_cons, List.take_zero, List.drop_succ_cons, List.drop_zero, List.length_cons, List.length_nil, Nat.reduceAdd, Row.cells, Ses.L] at H
              refine r_call rfl Try.call47 (by simp only [List.map_cons, List.map_nil, List.map_toArray, List.toList_toArray, upd_get, ev, Nat.reduceEqDiff, ↓reduceIte] <;> rfl) (InsS_c (y := ⟨n, num, now⟩) (atS l n) _ (SH.ow H (i := 1) rfl) (SH.ow H (i := 2) rfl) (fun b h1 h2 => (SH.val H).apart (i := 1) (j := 2) rfl rfl (by decide) (.inl trivial) b h2 h1) hal (by omega)) ?_
              rintro _ w8_8 ⟨v8_8, g8_8, rfl, K⟩
              refine ⟨_, rfl, ?_⟩
              replace H := SH.updO H (i := 1) rfl K
              clear K
              try dsimp only [replC, List.cons_append, List.nil_append, List.append_nil, agg, cellsL, Value.cells, List.toList_toArray, List.set_cons_zero, List.set_cons_succ, spliceL, List.take_succ_cons, List.take_zero, List.drop_succ_cons, List.drop_zero, List.length_cons, List.length_nil, Nat.reduceAdd, Row.cells, Ses.L] at H
              refine r_assign rfl ?_
              refine r_assign rfl ?_
              refine LW.nil ?_
              refine thenE_norm ?_
              refine cut (K := K60) [8, 9] (fun σ => ?_)
              simp only [setL, keepE, upd_get, ev, Nat.reduceEqDiff, ↓reduceIte]
              refine h60 _ _ ?_; clear h60; try clear K60
              refine CW.ret (ret2 Try.results29 (by simp only [upd_get, ev, Nat.reduceEqDiff, ↓reduceIte]; rfl) (by simp only [upd_get, ev, Nat.reduceEqDiff, ↓reduceIte]; rfl) ?_)
              first
                | contradiction
                | (rw [open_ok hg2_20P (by rw [hf]) (by assumption) (by omega)]; exact ⟨_, _, rfl, (SH.give (SH.sel H [1] (by decide) rfl) (List.Sublist.refl _) (by repeat first | exact trivial | refine ⟨trivial, ?_⟩))⟩)
      · have hg2_29P := hg2_29
        try simp only [decide_eq_true_eq, decide_eq_false_iff_not, Bool.and_eq_true, Bool.or_eq_true, Bool.and_eq_false_iff, Bool.or_eq_false_iff, Bool.not_eq_true', Bool.not_eq_false', beq_iff_eq, bne_iff_ne] at hg2_29P
        refine LW.want rfl rfl hg2_29 ?_
        refine r_move rfl ?_
        refine LW.want rfl rfl hg2_29 ?_
        refine r_move rfl ?_
        refine LW.known (t := 48) (c := false) rfl (by first | rfl | (simp only [decide_eq_true_eq, decide_eq_false_iff_not, Bool.and_eq_true, Bool.or_eq_true, Bool.and_eq_false_iff, Bool.or_eq_false_iff, Bool.not_eq_true', Bool.not_eq_false', beq_iff_eq, bne_iff_ne]; omega) | simp_all) (fun hg2_31 => ?_)
        refine LW.skip rfl (fun _ e => by cases e; decide) rfl hg2_31 ?_
        refine LW.skip rfl (fun _ e => by cases e; decide) rfl hg2_31 ?_
        refine LW.skip rfl (fun _ e => by cases e; decide) rfl hg2_31 ?_
        refine LW.skip rfl (fun _ e => by cases e; decide) rfl hg2_31 ?_
        refine LW.skip rfl (fun _ e => by cases e; decide) rfl hg2_31 ?_
        refine LW.skip rfl (fun _ e => by cases e; decide) rfl hg2_31 ?_
        refine LW.skip rfl (fun _ e => by cases e; decide) rfl hg2_31 ?_
        refine LW.want rfl rfl hg2_29 ?_
        refine r_pickF rfl rfl hg2_31 ?_
        refine LW.want rfl rfl hg2_29 ?_
        refine r_move rfl ?_
        refine LW.splitB (t := 57) rfl (fun hg2_40 => ?_) (fun hg2_40 => ?_)
        · have hg2_40P := hg2_40
          try simp only [decide_eq_true_eq, decide_eq_false_iff_not, Bool.and_eq_true, Bool.or_eq_true, Bool.and_eq_false_iff, Bool.or_eq_false_iff, Bool.not_eq_true', Bool.not_eq_false', beq_iff_eq, bne_iff_ne] at hg2_40P
          refine LW.want rfl rfl hg2_40 ?_
          refine r_move rfl ?_
          refine LW.want rfl rfl hg2_40 ?_
          refine r_move rfl ?_
          refine LW.want rfl rfl hg2_40 ?_
          refine r_call rfl Try.call46 (by simp only [List.map_cons, List.map_nil, List.map_toArray, List.toList_toArray, upd_get, ev, Nat.reduceEqDiff, ↓reduceIte] <;> rfl) (numbered_c _ _ (by first | assumption | exact SH.rsR H (by (repeat first | exact At.here | apply At.there); done) | exact SH.rsO H (by (repeat first | exact At.here | apply At.there); done) | exact Rs.toH (by first | assumption | exact SH.rsR H (by (repeat first | exact At.here | apply At.there); done) | exact SH.rsO H (by (repeat first | exact At.here | apply At.there); done)) (by omega) | exact Rs.toL (by first | assumption | exact SH.rsR H (by (repeat first | exact At.here | apply At.there); done) | exact SH.rsO H (by (repeat first | exact At.here | apply At.there); done)) (by omega) | exact Rs.toLH (by first | assumption | exact SH.rsR H (by (repeat first | exact At.here | apply At.there); done) | exact SH.rsO H (by (repeat first | exact At.here | apply At.there); done)) (by omega) (by omega) | exact (Rs.nil : Rs Non _ _ _))) ?_
          rintro _ w2_42 ⟨rfl, X⟩
          refine ⟨_, rfl, ?_⟩
          replace H := SH.same H X
          clear X
          refine LW.want rfl rfl hg2_29 ?_
          refine r_pickT rfl rfl hg2_40 ?_
          refine r_pickF rfl rfl hg2_29 ?_
          refine LW.nil ?_
          refine thenE_norm ?_
          refine cut (K := K4) [0, 1, 2, 3, 10, 11, 62] (fun σ => ?_)
          simp only [setL, keepE, upd_get, ev, Nat.reduceEqDiff, ↓reduceIte]
          refine h4 _ _ ?_; clear h4; try clear K4
          refine CW.cond rfl (fun hc1 => ?_) (fun hc1 => ?_)
          · try simp only [decide_eq_true_eq, decide_eq_false_iff_not, Bool.and_eq_true, Bool.or_eq_true, Bool.and_eq_false_iff, Bool.or_eq_false_iff, Bool.not_eq_true', Bool.not_eq_false', beq_iff_eq, bne_iff_ne, ne_eq, Decidable.not_not] at hc1
            refine CW.seq (fun K61 h61 => ?_)
            refine CW.region ?_
            refine r_assign rfl ?_
            refine r_assign rfl ?_
            refine LW.nil ?_
            refine thenE_norm (h61 _ _ ?_); clear h61; try clear K61
            refine CW.ret (thenE_ret (ret2 Try.results29 (by simp only [upd_get, ev, Nat.reduceEqDiff, ↓reduceIte]; rfl) (by simp only [upd_get, ev, Nat.reduceEqDiff, ↓reduceIte]; rfl) ?_))
            first
              | contradiction
              | (rw [open_bad hg2_20P]; exact ⟨_, none, rfl, SH.give (H.addO (α := Ses) 52) (by repeat first | exact List.Sublist.refl _ | exact List.nil_sublist _ | apply List.Sublist.cons_cons | apply List.Sublist.cons) ⟨trivial, trivial⟩⟩)
              | (rw [open_dupN (by rw [hf]) hg2_29]; exact ⟨_, none, rfl, SH.give (H.addO (α := Ses) 52) (by repeat first | exact List.Sublist.refl _ | exact List.nil_sublist _ | apply List.Sublist.cons_cons | apply List.Sublist.cons) ⟨trivial, trivial⟩⟩)
              | (rw [open_dupY (by rw [hf]) (by rw [hf]; exact hg2_40P.2) hc1]; exact ⟨_, none, rfl, SH.give (H.addO (α := Ses) 52) (by repeat first | exact List.Sublist.refl _ | exact List.nil_sublist _ | apply List.Sublist.cons_cons | apply List.Sublist.cons) ⟨trivial, trivial⟩⟩)
          · try simp only [decide_eq_true_eq, decide_eq_false_iff_not, Bool.and_eq_true, Bool.or_eq_true, Bool.and_eq_false_iff, Bool.or_eq_false_iff, Bool.not_eq_true', Bool.not_eq_false', beq_iff_eq, bne_iff_ne, ne_eq, Decidable.not_not] at hc1
            refine CW.skip ?_
            refine thenE_norm (h3 _ _ ?_); clear h3; try clear K3
            refine CW.seq (fun K62 h62 => ?_)
            refine CW.seq (fun K63 h63 => ?_)
            refine CW.region ?_
            refine r_move rfl ?_
            refine LW.nil ?_
            refine thenE_norm (h63 _ _ ?_); clear h63; try clear K63
            refine CW.cond rfl (fun hc2 => ?_) (fun hc2 => ?_)
            · try simp only [decide_eq_true_eq, decide_eq_false_iff_not, Bool.and_eq_true, Bool.or_eq_true, Bool.and_eq_false_iff, Bool.or_eq_false_iff, Bool.not_eq_true', Bool.not_eq_false', beq_iff_eq, bne_iff_ne, ne_eq, Decidable.not_not] at hc2
              refine CW.seq (fun K64 h64 => ?_)
              refine CW.region ?_
              refine r_assign rfl ?_
              refine r_assign rfl ?_
              refine LW.nil ?_
              refine thenE_norm (h64 _ _ ?_); clear h64; try clear K64
              refine CW.ret (thenE_ret (ret2 Try.results29 (by simp only [upd_get, ev, Nat.reduceEqDiff, ↓reduceIte]; rfl) (by simp only [upd_get, ev, Nat.reduceEqDiff, ↓reduceIte]; rfl) ?_))
              first
                | contradiction
                | (rw [open_twice hg2_20P (by rw [hf]) (.inr hc1)]; exact ⟨_, none, rfl, SH.give (H.addO (α := Ses) 52) (by repeat first | exact List.Sublist.refl _ | exact List.nil_sublist _ | apply List.Sublist.cons_cons | apply List.Sublist.cons) ⟨trivial, trivial⟩⟩)
                | (rw [open_twice hg2_20P (by rw [hf]) (.inl (by rw [hf]; simpa using hg2_40P))]; exact ⟨_, none, rfl, SH.give (H.addO (α := Ses) 52) (by repeat first | exact List.Sublist.refl _ | exact List.nil_sublist _ | apply List.Sublist.cons_cons | apply List.Sublist.cons) ⟨trivial, trivial⟩⟩)
            · try simp only [decide_eq_true_eq, decide_eq_false_iff_not, Bool.and_eq_true, Bool.or_eq_true, Bool.and_eq_false_iff, Bool.or_eq_false_iff, Bool.not_eq_true', Bool.not_eq_false', beq_iff_eq, bne_iff_ne, ne_eq, Decidable.not_not] at hc2
              refine CW.skip ?_
              refine thenE_norm (h62 _ _ ?_); clear h62; try clear K62
              refine CW.seq (fun K65 h65 => ?_)
              refine CW.seq (fun K66 h66 => ?_)
              refine CW.region ?_
              refine r_move rfl ?_
              first
                | refine r_lenV rfl Try.underlying48 (by simp only [upd_get, ev, Nat.reduceEqDiff, ↓reduceIte] <;> rfl) (by first | assumption | exact SH.rsR H (by (repeat first | exact At.here | apply At.there); done) | exact SH.rsO H (by (repeat first | exact At.here | apply At.there); done) | exact Rs.toH (by first | assumption | exact SH.rsR H (by (repeat first | exact At.here | apply At.there); done) | exact SH.rsO H (by (repeat first | exact At.here | apply At.there); done)) (by omega) | exact Rs.toL (by first | assumption | exact SH.rsR H (by (repeat first | exact At.here | apply At.there); done) | exact SH.rsO H (by (repeat first | exact At.here | apply At.there); done)) (by omega) | exact Rs.toLH (by first | assumption | exact SH.rsR H (by (repeat first | exact At.here | apply At.there); done) | exact SH.rsO H (by (repeat first | exact At.here | apply At.there); done)) (by omega) (by omega) | exact (Rs.nil : Rs Non _ _ _)) ?_
                | refine r_len rfl Try.underlying48 rfl ?_
              refine r_geq rfl rfl rfl ?_
              refine LW.nil ?_
              refine thenE_norm (h66 _ _ ?_); clear h66; try clear K66
              refine CW.cond rfl (fun hc3 => ?_) (fun hc3 => ?_)
              · try simp only [decide_eq_true_eq, decide_eq_false_iff_not, Bool.and_eq_true, Bool.or_eq_true, Bool.and_eq_false_iff, Bool.or_eq_false_iff, Bool.not_eq_true', Bool.not_eq_false', beq_iff_eq, bne_iff_ne, ne_eq, Decidable.not_not] at hc3
                refine CW.seq (fun K67 h67 => ?_)
                refine CW.region ?_
                refine r_assign rfl ?_
                refine r_assign rfl ?_
                refine LW.nil ?_
                refine thenE_norm (h67 _ _ ?_); clear h67; try clear K67
                refine CW.ret (thenE_ret (ret2 Try.results29 (by simp only [upd_get, ev, Nat.reduceEqDiff, ↓reduceIte]; rfl) (by simp only [upd_get, ev, Nat.reduceEqDiff, ↓reduceIte]; rfl) ?_))
                first
                  | contradiction
                  | (rw [open_full hg2_20P (by rw [hf]) (by assumption) (by omega)]; exact ⟨_, none, rfl, SH.give (H.addO (α := Ses) 52) (by repeat first | exact List.Sublist.refl _ | exact List.nil_sublist _ | apply List.Sublist.cons_cons | apply List.Sublist.cons) ⟨trivial, trivial⟩⟩)
              · try simp only [decide_eq_true_eq, decide_eq_false_iff_not, Bool.and_eq_true, Bool.or_eq_true, Bool.and_eq_false_iff, Bool.or_eq_false_iff, Bool.not_eq_true', Bool.not_eq_false', beq_iff_eq, bne_iff_ne, ne_eq, Decidable.not_not] at hc3
                refine CW.skip ?_
                refine thenE_norm (h65 _ _ ?_); clear h65; try clear K65
                refine CW.seq (fun K68 h68 => ?_)
                refine CW.region ?_
                refine r_move rfl ?_
                refine r_call rfl Try.call44 (by simp only [List.map_cons, List.map_nil, List.map_toArray, List.toList_toArray, upd_get, ev, Nat.reduceEqDiff, ↓reduceIte] <;> rfl) (CloneS_c _ (by first | assumption | exact SH.rsR H (by (repeat first | exact At.here | apply At.there); done) | exact SH.rsO H (by (repeat first | exact At.here | apply At.there); done) | exact Rs.toH (by first | assumption | exact SH.rsR H (by (repeat first | exact At.here | apply At.there); done) | exact SH.rsO H (by (repeat first | exact At.here | apply At.there); done)) (by omega) | exact Rs.toL (by first | assumption | exact SH.rsR H (by (repeat first | exact At.here | apply At.there); done) | exact SH.rsO H (by (repeat first | exact At.here | apply At.there); done)) (by omega) | exact Rs.toLH (by first | assumption | exact SH.rsR H (by (repeat first | exact At.here | apply At.there); done) | exact SH.rsO H (by (repeat first | exact At.here | apply At.there); done)) (by omega) (by omega) | exact (Rs.nil : Rs Non _ _ _)) (by first | omega | (simp only [List.length_append, List.length_cons, List.length_nil]; omega) | (simp; omega))) ?_
                rintro _ w8_1 ⟨v8_1, g8_1, rfl, K⟩
                refine ⟨_, rfl, ?_⟩
                replace H := SH.call H K
                clear K
                try dsimp only [replC, List.cons_append, List.nil_append, List.append_nil, agg, cellsL, Value.cells, List.toList_toArray, List.set_cons_zero, List.set_cons_succ, spliceL, List.take_succ_cons, List.take_zero, List.drop_succ_cons, List.drop_zero, List.length_cons, List.length_nil, Nat.reduceAdd, Row.cells, Ses.L] at H
                refine r_move rfl ?_
                refine r_move rfl ?_
                refine r_move rfl ?_
                refine r_move rfl ?_
                refine r_buildQ rfl Try.underlying52 Try.zeroValue52 rfl (pl := [(0, 1), (1, 1), (2, 1)]) (by intro w; simp [go_sem]) (qs := [(0, [_]), (1, [_]), (2, [_])]) (cs := [_, _, _]) ⟨rfl, cells_one (by simp only [upd_get, ev, Nat.reduceEqDiff, ↓reduceIte] <;> rfl) (by first | rfl | exact Rs.oneC (by first | assumption | exact SH.rsR H (by (repeat first | exact At.here | apply At.there); done) | exact SH.rsO H (by (repeat first | exact At.here | apply At.there); done) | exact Rs.toH (by first | assumption | exact SH.rsR H (by (repeat first | exact At.here | apply At.there); done) | exact SH.rsO H (by (repeat first | exact At.here | apply At.there); done)) (by omega) | exact Rs.toL (by first | assumption | exact SH.rsR H (by (repeat first | exact At.here | apply At.there); done) | exact SH.rsO H (by (repeat first | exact At.here | apply At.there); done)) (by omega) | exact Rs.toLH (by first | assumption | exact SH.rsR H (by (repeat first | exact At.here | apply At.there); done) | exact SH.rsO H (by (repeat first | exact At.here | apply At.there); done)) (by omega) (by omega) | exact (Rs.nil : Rs Non _ _ _))), rfl, cells_one (by simp only [upd_get, ev, Nat.reduceEqDiff, ↓reduceIte] <;> rfl) (by first | rfl | exact Rs.oneC (by first | assumption | exact SH.rsR H (by (repeat first | exact At.here | apply At.there); done) | exact SH.rsO H (by (repeat first | exact At.here | apply At.there); done) | exact Rs.toH (by first | assumption | exact SH.rsR H (by (repeat first | exact At.here | apply At.there); done) | exact SH.rsO H (by (repeat first | exact At.here | apply At.there); done)) (by omega) | exact Rs.toL (by first | assumption | exact SH.rsR H (by (repeat first | exact At.here | apply At.there); done) | exact SH.rsO H (by (repeat first | exact At.here | apply At.there); done)) (by omega) | exact Rs.toLH (by first | assumption | exact SH.rsR H (by (repeat first | exact At.here | apply At.there); done) | exact SH.rsO H (by (repeat first | exact At.here | apply At.there); done)) (by omega) (by omega) | exact (Rs.nil : Rs Non _ _ _))), rfl, cells_one (by simp only [upd_get, ev, Nat.reduceEqDiff, ↓reduceIte] <;> rfl) (by first | rfl | exact Rs.oneC (by first | assumption | exact SH.rsR H (by (repeat first | exact At.here | apply At.there); done) | exact SH.rsO H (by (repeat first | exact At.here | apply At.there); done) | exact Rs.toH (by first | assumption | exact SH.rsR H (by (repeat first | exact At.here | apply At.there); done) | exact SH.rsO H (by (repeat first | exact At.here | apply At.there); done)) (by omega) | exact Rs.toL (by first | assumption | exact SH.rsR H (by (repeat first | exact At.here | apply At.there); done) | exact SH.rsO H (by (repeat first | exact At.here | apply At.there); done)) (by omega) | exact Rs.toLH (by first | assumption | exact SH.rsR H (by (repeat first | exact At.here | apply At.there); done) | exact SH.rsO H (by (repeat first | exact At.here | apply At.there); done)) (by omega) (by omega) | exact (Rs.nil : Rs Non _ _ _))), trivial⟩ rfl ?_
                refine r_buildSliceA (vs := [_]) rfl Try.underlying48 Try.sizeOf52 Try.zeroValue52 rfl rfl rfl rfl (by simp only [List.map_cons, List.map_nil, List.toList_toArray, numbered, Nat.reduceAdd, upd_get, ev, Nat.reduceEqDiff, ↓reduceIte] <;> rfl) rfl (by intro v hv; simp only [List.mem_cons, List.not_mem_nil, or_false] at hv; rcases hv with rfl <;> rfl) ?_
                intro b8_7 w8_7 hb8_7 hs8_7 hE8_7 hB8_7
                replace H := SH.call H (SH.fromB hE8_7 hb8_7 hs8_7 hB8_7)
                clear hb8_7 hs8_7 hE8_7 hB8_7
                try dsimp only [replC, List.cons_append, List.nil_append, List.append_nil, agg, cellsL, Value.cells, List.toList_toArray, List.set_cons_zero, List.set_cons_succ, spliceL, List.take_succ_cons, List.take_zero, List.drop_succ_cons, List.drop_zero, List.length_cons, List.length_nil, Nat.reduceAdd, Row.cells, Ses.L] at H
                replace H := SH.row (b := b8_7) (xs := ([⟨n, num, now⟩] : List Ses)) (n := 1) (cap := 1) H (by (repeat first | exact At.here | apply At.there); done) (by simp only [flat, List.flatMap_cons, List.flatMap_nil, cellsL, agg, List.append_nil, List.cons_append, List.nil_append, List.toList_toArray, Row.cells, Ses.L] <;> rfl) (by intro x hx; first | rfl | (simp at hx; done) | (simp only [List.mem_cons, List.not_mem_nil, or_false] at hx; rcases hx with rfl <;> first | rfl | exact (by first | rfl | exact Rs.oneC (by first | assumption | exact SH.rsR H (by (repeat first | exact At.here | apply At.there); done) | exact SH.rsO H (by (repeat first | exact At.here | apply At.there); done) | exact Rs.toH (by first | assumption | exact SH.rsR H (by (repeat first | exact At.here | apply At.there); done) | exact SH.rsO H (by (repeat first | exact At.here | apply At.there); done)) (by omega) | exact Rs.toL (by first | assumption | exact SH.rsR H (by (repeat first | exact At.here | apply At.there); done) | exact SH.rsO H (by (repeat first | exact At.here | apply At.there); done)) (by omega) | exact Rs.toLH (by first | assumption | exact SH.rsR H (by (repeat first | exact At.here | apply At.there); done) | exact SH.rsO H (by (repeat first | exact At.here | apply At.there); done)) (by omega) (by omega) | exact (Rs.nil : Rs Non _ _ _)) | (simp only [List.all_cons, List.all_nil, Bool.and_true, Bool.and_eq_true, Row.cells, Ses.L]; (repeat' constructor) <;> first | rfl | exact Rs.oneC (by first | assumption | exact SH.rsR H (by (repeat first | exact At.here | apply At.there); done) | exact SH.rsO H (by (repeat first | exact At.here | apply At.there); done) | exact Rs.toH (by first | assumption | exact SH.rsR H (by (repeat first | exact At.here | apply At.there); done) | exact SH.rsO H (by (repeat first | exact At.here | apply At.there); done)) (by omega) | exact Rs.toL (by first | assumption | exact SH.rsR H (by (repeat first | exact At.here | apply At.there); done) | exact SH.rsO H (by (repeat first | exact At.here | apply At.there); done)) (by omega) | exact Rs.toLH (by first | assumption | exact SH.rsR H (by (repeat first | exact At.here | apply At.there); done) | exact SH.rsO H (by (repeat first | exact At.here | apply At.there); done)) (by omega) (by omega) | exact (Rs.nil : Rs Non _ _ _)))))) (by rfl) rfl (by decide)
                try dsimp only [replC, List.cons_append, List.nil_append, List.append_nil, agg, cellsL, Value.cells, List.toList_toArray, List.set_cons_zero, List.set_cons_succ, spliceL, List.take_succ_cons, List.take_zero, List.drop_succ_cons, List.drop_zero, List.length_cons, List.length_nil, Nat.reduceAdd, Row.cells, Ses.L] at H
                refine r_call rfl Try.call47 (by simp only [List.map_cons, List.map_nil, List.map_toArray, List.toList_toArray, upd_get, ev, Nat.reduceEqDiff, ↓reduceIte] <;> rfl) (InsS_c (y := ⟨n, num, now⟩) (atS l n) _ (SH.ow H (i := 1) rfl) (SH.ow H (i := 2) rfl) (fun b h1 h2 => (SH.val H).apart (i := 1) (j := 2) rfl rfl (by decide) (.inl trivial) b h2 h1) hal (by omega)) ?_
                rintro _ w8_8 ⟨v8_8, g8_8, rfl, K⟩
                refine ⟨_, rfl, ?_⟩
                replace H := SH.updO H (i := 1) rfl K
                clear K
                try dsimp only [replC, List.cons_append, List.nil_append, List.append_nil, agg, cellsL, Value.cells, List.toList_toArray, List.set_cons_zero, List.set_cons_succ, spliceL, List.take_succ_cons, List.take_zero, List.drop_succ_cons, List.drop_zero, List.length_cons, List.length_nil, Nat.reduceAdd, Row.cells, Ses.L] at H
                refine r_assign rfl ?_
                refine r_assign rfl ?_
                refine LW.nil ?_
                refine thenE_norm ?_
                refine cut (K := K68) [8, 9] (fun σ => ?_)
                simp only [setL, keepE, upd_get, ev, Nat.reduceEqDiff, ↓reduceIte]
                refine h68 _ _ ?_; clear h68; try clear K68
                refine CW.ret (ret2 Try.results29 (by simp only [upd_get, ev, Nat.reduceEqDiff, ↓reduceIte]; rfl) (by simp only [upd_get, ev, Nat.reduceEqDiff, ↓reduceIte]; rfl) ?_)
                first
                  | contradiction
                  | (rw [open_ok hg2_20P (by rw [hf]) (by assumption) (by omega)]; exact ⟨_, _, rfl, (SH.give (SH.sel H [1] (by decide) rfl) (List.Sublist.refl _) (by repeat first | exact trivial | refine ⟨trivial, ?_⟩))⟩)
        · have hg2_40P := hg2_40
          try simp only [decide_eq_true_eq, decide_eq_false_iff_not, Bool.and_eq_true, Bool.or_eq_true, Bool.and_eq_false_iff, Bool.or_eq_false_iff, Bool.not_eq_true', Bool.not_eq_false', beq_iff_eq, bne_iff_ne] at hg2_40P
          refine LW.skip rfl (fun _ e => by cases e; decide) rfl hg2_40 ?_
          refine LW.skip rfl (fun _ e => by cases e; decide) rfl hg2_40 ?_
          refine LW.skip rfl (fun _ e => by cases e; decide) rfl hg2_40 ?_
          refine LW.want rfl rfl hg2_29 ?_
          refine r_pickF rfl rfl hg2_40 ?_
          refine r_pickF rfl rfl hg2_29 ?_
          refine LW.nil ?_
          refine thenE_norm ?_
          refine cut (K := K4) [0, 1, 2, 3, 10, 11, 62] (fun σ => ?_)
          simp only [setL, keepE, upd_get, ev, Nat.reduceEqDiff, ↓reduceIte]
          refine h4 _ _ ?_; clear h4; try clear K4
          refine CW.cond rfl (fun hc1 => ?_) (fun hc1 => ?_)
          · try simp only [decide_eq_true_eq, decide_eq_false_iff_not, Bool.and_eq_true, Bool.or_eq_true, Bool.and_eq_false_iff, Bool.or_eq_false_iff, Bool.not_eq_true', Bool.not_eq_false', beq_iff_eq, bne_iff_ne, ne_eq, Decidable.not_not] at hc1
            refine CW.seq (fun K69 h69 => ?_)
            refine CW.region ?_
            refine r_assign rfl ?_
            refine r_assign rfl ?_
            refine LW.nil ?_
            refine thenE_norm (h69 _ _ ?_); clear h69; try clear K69
            refine CW.ret (thenE_ret (ret2 Try.results29 (by simp only [upd_get, ev, Nat.reduceEqDiff, ↓reduceIte]; rfl) (by simp only [upd_get, ev, Nat.reduceEqDiff, ↓reduceIte]; rfl) ?_))
            first
              | contradiction
              | (rw [open_bad hg2_20P]; exact ⟨_, none, rfl, SH.give (H.addO (α := Ses) 52) (by repeat first | exact List.Sublist.refl _ | exact List.nil_sublist _ | apply List.Sublist.cons_cons | apply List.Sublist.cons) ⟨trivial, trivial⟩⟩)
              | (rw [open_dupN (by rw [hf]) hg2_29]; exact ⟨_, none, rfl, SH.give (H.addO (α := Ses) 52) (by repeat first | exact List.Sublist.refl _ | exact List.nil_sublist _ | apply List.Sublist.cons_cons | apply List.Sublist.cons) ⟨trivial, trivial⟩⟩)
              | (rw [open_dupY (by rw [hf]) (by rw [hf]; exact hg2_40P.2) hc1]; exact ⟨_, none, rfl, SH.give (H.addO (α := Ses) 52) (by repeat first | exact List.Sublist.refl _ | exact List.nil_sublist _ | apply List.Sublist.cons_cons | apply List.Sublist.cons) ⟨trivial, trivial⟩⟩)
          · try simp only [decide_eq_true_eq, decide_eq_false_iff_not, Bool.and_eq_true, Bool.or_eq_true, Bool.and_eq_false_iff, Bool.or_eq_false_iff, Bool.not_eq_true', Bool.not_eq_false', beq_iff_eq, bne_iff_ne, ne_eq, Decidable.not_not] at hc1
            refine CW.skip ?_
            refine thenE_norm (h3 _ _ ?_); clear h3; try clear K3
            refine CW.seq (fun K70 h70 => ?_)
            refine CW.seq (fun K71 h71 => ?_)
            refine CW.region ?_
            refine r_move rfl ?_
            refine LW.nil ?_
            refine thenE_norm (h71 _ _ ?_); clear h71; try clear K71
            refine CW.cond rfl (fun hc2 => ?_) (fun hc2 => ?_)
            · try simp only [decide_eq_true_eq, decide_eq_false_iff_not, Bool.and_eq_true, Bool.or_eq_true, Bool.and_eq_false_iff, Bool.or_eq_false_iff, Bool.not_eq_true', Bool.not_eq_false', beq_iff_eq, bne_iff_ne, ne_eq, Decidable.not_not] at hc2
              refine CW.seq (fun K72 h72 => ?_)
              refine CW.region ?_
              refine r_assign rfl ?_
              refine r_assign rfl ?_
              refine LW.nil ?_
              refine thenE_norm (h72 _ _ ?_); clear h72; try clear K72
              refine CW.ret (thenE_ret (ret2 Try.results29 (by simp only [upd_get, ev, Nat.reduceEqDiff, ↓reduceIte]; rfl) (by simp only [upd_get, ev, Nat.reduceEqDiff, ↓reduceIte]; rfl) ?_))
              first
                | contradiction
                | (rw [open_twice hg2_20P (by rw [hf]) (.inr hc1)]; exact ⟨_, none, rfl, SH.give (H.addO (α := Ses) 52) (by repeat first | exact List.Sublist.refl _ | exact List.nil_sublist _ | apply List.Sublist.cons_cons | apply List.Sublist.cons) ⟨trivial, trivial⟩⟩)
                | (rw [open_twice hg2_20P (by rw [hf]) (.inl (by rw [hf]; simpa using hg2_40P))]; exact ⟨_, none, rfl, SH.give (H.addO (α := Ses) 52) (by repeat first | exact List.Sublist.refl _ | exact List.nil_sublist _ | apply List.Sublist.cons_cons | apply List.Sublist.cons) ⟨trivial, trivial⟩⟩)
            · try simp only [decide_eq_true_eq, decide_eq_false_iff_not, Bool.and_eq_true, Bool.or_eq_true, Bool.and_eq_false_iff, Bool.or_eq_false_iff, Bool.not_eq_true', Bool.not_eq_false', beq_iff_eq, bne_iff_ne, ne_eq, Decidable.not_not] at hc2
              refine CW.skip ?_
              refine thenE_norm (h70 _ _ ?_); clear h70; try clear K70
              refine CW.seq (fun K73 h73 => ?_)
              refine CW.seq (fun K74 h74 => ?_)
              refine CW.region ?_
              refine r_move rfl ?_
              first
                | refine r_lenV rfl Try.underlying48 (by simp only [upd_get, ev, Nat.reduceEqDiff, ↓reduceIte] <;> rfl) (by first | assumption | exact SH.rsR H (by (repeat first | exact At.here | apply At.there); done) | exact SH.rsO H (by (repeat first | exact At.here | apply At.there); done) | exact Rs.toH (by first | assumption | exact SH.rsR H (by (repeat first | exact At.here | apply At.there); done) | exact SH.rsO H (by (repeat first | exact At.here | apply At.there); done)) (by omega) | exact Rs.toL (by first | assumption | exact SH.rsR H (by (repeat first | exact At.here | apply At.there); done) | exact SH.rsO H (by (repeat first | exact At.here | apply At.there); done)) (by omega) | exact Rs.toLH (by first | assumption | exact SH.rsR H (by (repeat first | exact At.here | apply At.there); done) | exact SH.rsO H (by (repeat first | exact At.here | apply At.there); done)) (by omega) (by omega) | exact (Rs.nil : Rs Non _ _ _)) ?_
                | refine r_len rfl Try.underlying48 rfl ?_
              refine r_geq rfl rfl rfl ?_
              refine LW.nil ?_
              refine thenE_norm (h74 _ _ ?_); clear h74; try clear K74
              refine CW.cond rfl (fun hc3 => ?_) (fun hc3 => ?_)
              · try simp only [decide_eq_true_eq, decide_eq_false_iff_not, Bool.and_eq_true, Bool.or_eq_true, Bool.and_eq_false_iff, Bool.or_eq_false_iff, Bool.not_eq_true', Bool.not_eq_false', beq_iff_eq, bne_iff_ne, ne_eq, Decidable.not_not] at hc3
                refine CW.seq (fun K75 h75 => ?_)
                refine CW.region ?_
                refine r_assign rfl ?_
                refine r_assign rfl ?_
                refine LW.nil ?_
                refine thenE_norm (h75 _ _ ?_); clear h75; try clear K75
                refine CW.ret (thenE_ret (ret2 Try.results29 (by simp only [upd_get, ev, Nat.reduceEqDiff, ↓reduceIte]; rfl) (by simp only [upd_get, ev, Nat.reduceEqDiff, ↓reduceIte]; rfl) ?_))
                first
                  | contradiction
                  | (rw [open_full hg2_20P (by rw [hf]) (by assumption) (by omega)]; exact ⟨_, none, rfl, SH.give (H.addO (α := Ses) 52) (by repeat first | exact List.Sublist.refl _ | exact List.nil_sublist _ | apply List.Sublist.cons_cons | apply List.Sublist.cons) ⟨trivial, trivial⟩⟩)
              · try simp only [decide_eq_true_eq, decide_eq_false_iff_not, Bool.and_eq_true, Bool.or_eq_true, Bool.and_eq_false_iff, Bool.or_eq_false_iff, Bool.not_eq_true', Bool.not_eq_false', beq_iff_eq, bne_iff_ne, ne_eq, Decidable.not_not] at hc3
                refine CW.skip ?_
                refine thenE_norm (h73 _ _ ?_); clear h73; try clear K73
                refine CW.seq (fun K76 h76 => ?_)
                refine CW.region ?_
                refine r_move rfl ?_
                refine r_call rfl Try.call44 (by simp only [List.map_cons, List.map_nil, List.map_toArray, List.toList_toArray, upd_get, ev, Nat.reduceEqDiff, ↓reduceIte] <;> rfl) (CloneS_c _ (by first | assumption | exact SH.rsR H (by (repeat first | exact At.here | apply At.there); done) | exact SH.rsO H (by (repeat first | exact At.here | apply At.there); done) | exact Rs.toH (by first | assumption | exact SH.rsR H (by (repeat first | exact At.here | apply At.there); done) | exact SH.rsO H (by (repeat first | exact At.here | apply At.there); done)) (by omega) | exact Rs.toL (by first | assumption | exact SH.rsR H (by (repeat first | exact At.here | apply At.there); done) | exact SH.rsO H (by (repeat first | exact At.here | apply At.there); done)) (by omega) | exact Rs.toLH (by first | assumption | exact SH.rsR H (by (repeat first | exact At.here | apply At.there); done) | exact SH.rsO H (by (repeat first | exact At.here | apply At.there); done)) (by omega) (by omega) | exact (Rs.nil : Rs Non _ _ _)) (by first | omega | (simp only [List.length_append, List.length_cons, List.length_nil]; omega) | (simp; omega))) ?_
                rintro _ w8_1 ⟨v8_1, g8_1, rfl, K⟩
                refine ⟨_, rfl, ?_⟩
                replace H := SH.call H K
                clear K
                try dsimp only [replC, List.cons_append, List.nil_append, List.append_nil, agg, cellsL, Value.cells, List.toList_toArray, List.set_cons_zero, List.set_cons_succ, spliceL, List.take_succ_cons, List.take_zero, List.drop_succ_cons, List.drop_zero, List.length_cons, List.length_nil, Nat.reduceAdd, Row.cells, Ses.L] at H
                refine r_move rfl ?_
                refine r_move rfl ?_
                refine r_move rfl ?_
                refine r_move rfl ?_
                refine r_buildQ rfl Try.underlying52 Try.zeroValue52 rfl (pl := [(0, 1), (1, 1), (2, 1)]) (by intro w; simp [go_sem]) (qs := [(0, [_]), (1, [_]), (2, [_])]) (cs := [_, _, _]) ⟨rfl, cells_one (by simp only [upd_get, ev, Nat.reduceEqDiff, ↓reduceIte] <;> rfl) (by first | rfl | exact Rs.oneC (by first | assumption | exact SH.rsR H (by (repeat first | exact At.here | apply At.there); done) | exact SH.rsO H (by (repeat first | exact At.here | apply At.there); done) | exact Rs.toH (by first | assumption | exact SH.rsR H (by (repeat first | exact At.here | apply At.there); done) | exact SH.rsO H (by (repeat first | exact At.here | apply At.there); done)) (by omega) | exact Rs.toL (by first | assumption | exact SH.rsR H (by (repeat first | exact At.here | apply At.there); done) | exact SH.rsO H (by (repeat first | exact At.here | apply At.there); done)) (by omega) | exact Rs.toLH (by first | assumption | exact SH.rsR H (by (repeat first | exact At.here | apply At.there); done) | exact SH.rsO H (by (repeat first | exact At.here | apply At.there); done)) (by omega) (by omega) | exact (Rs.nil : Rs Non _ _ _))), rfl, cells_one (by simp only [upd_get, ev, Nat.reduceEqDiff, ↓reduceIte] <;> rfl) (by first | rfl | exact Rs.oneC (by first | assumption | exact SH.rsR H (by (repeat first | exact At.here | apply At.there); done) | exact SH.rsO H (by (repeat first | exact At.here | apply At.there); done) | exact Rs.toH (by first | assumption | exact SH.rsR H (by (repeat first | exact At.here | apply At.there); done) | exact SH.rsO H (by (repeat first | exact At.here | apply At.there); done)) (by omega) | exact Rs.toL (by first | assumption | exact SH.rsR H (by (repeat first | exact At.here | apply At.there); done) | exact SH.rsO H (by (repeat first | exact At.here | apply At.there); done)) (by omega) | exact Rs.toLH (by first | assumption | exact SH.rsR H (by (repeat first | exact At.here | apply At.there); done) | exact SH.rsO H (by (repeat first | exact At.here | apply At.there); done)) (by omega) (by omega) | exact (Rs.nil : Rs Non _ _ _))), rfl, cells_one (by simp only [upd_get, ev, Nat.reduceEqDiff, ↓reduceIte] <;> rfl) (by first | rfl | exact Rs.oneC (by first | assumption | exact SH.rsR H (by (repeat first | exact At.here | apply At.there); done) | exact SH.rsO H (by (repeat first | exact At.here | apply At.there); done) | exact Rs.toH (by first | assumption | exact SH.rsR H (by (repeat first | exact At.here | apply At.there); done) | exact SH.rsO H (by (repeat first | exact At.here | apply At.there); done)) (by omega) | exact Rs.toL (by first | assumption | exact SH.rsR H (by (repeat first | exact At.here | apply At.there); done) | exact SH.rsO H (by (repeat first | exact At.here | apply At.there); done)) (by omega) | exact Rs.toLH (by first | assumption | exact SH.rsR H (by (repeat first | exact At.here | apply At.there); done) | exact SH.rsO H (by (repeat first | exact At.here | apply At.there); done)) (by omega) (by omega) | exact (Rs.nil : Rs Non _ _ _))), trivial⟩ rfl ?_
                refine r_buildSliceA (vs := [_]) rfl Try.underlying48 Try.sizeOf52 Try.zeroValue52 rfl rfl rfl rfl (by simp only [List.map_cons, List.map_nil, List.toList_toArray, numbered, Nat.reduceAdd, upd_get, ev, Nat.reduceEqDiff, ↓reduceIte] <;> rfl) rfl (by intro v hv; simp only [List.mem_cons, List.not_mem_nil, or_false] at hv; rcases hv with rfl <;> rfl) ?_
                intro b8_7 w8_7 hb8_7 hs8_7 hE8_7 hB8_7
                replace H := SH.call H (SH.fromB hE8_7 hb8_7 hs8_7 hB8_7)
                clear hb8_7 hs8_7 hE8_7 hB8_7
                try dsimp only [replC, List.cons_append, List.nil_append, List.append_nil, agg, cellsL, Value.cells, List.toList_toArray, List.set_cons_zero, List.set_cons_succ, spliceL, List.take_succ_cons, List.take_zero, List.drop_succ_cons, List.drop_zero, List.length_cons, List.length_nil, Nat.reduceAdd, Row.cells, Ses.L] at H
                replace H := SH.row (b := b8_7) (xs := ([⟨n, num, now⟩] : List Ses)) (n := 1) (cap := 1) H (by (repeat first | exact At.here | apply At.there); done) (by simp only [flat, List.flatMap_cons, List.flatMap_nil, cellsL, agg, List.append_nil, List.cons_append, List.nil_append, List.toList_toArray, Row.cells, Ses.L] <;> rfl) (by intro x hx; first | rfl | (simp at hx; done) | (simp only [List.mem_cons, List.not_mem_nil, or_false] at hx; rcases hx with rfl <;> first | rfl | exact (by first | rfl | exact Rs.oneC (by first | assumption | exact SH.rsR H (by (repeat first | exact At.here | apply At.there); done) | exact SH.rsO H (by (repeat first | exact At.here | apply At.there); done) | exact Rs.toH (by first | assumption | exact SH.rsR H (by (repeat first | exact At.here | apply At.there); done) | exact SH.rsO H (by (repeat first | exact At.here | apply At.there); done)) (by omega) | exact Rs.toL (by first | assumption | exact SH.rsR H (by (repeat first | exact At.here | apply At.there); done) | exact SH.rsO H (by (repeat first | exact At.here | apply At.there); done)) (by omega) | exact Rs.toLH (by first | assumption | exact SH.rsR H (by (repeat first | exact At.here | apply At.there); done) | exact SH.rsO H (by (repeat first | exact At.here | apply At.there); done)) (by omega) (by omega) | exact (Rs.nil : Rs Non _ _ _)) | (simp only [List.all_cons, List.all_nil, Bool.and_true, Bool.and_eq_true, Row.cells, Ses.L]; (repeat' constructor) <;> first | rfl | exact Rs.oneC (by first | assumption | exact SH.rsR H (by (repeat first | exact At.here | apply At.there); done) | exact SH.rsO H (by (repeat first | exact At.here | apply At.there); done) | exact Rs.toH (by first | assumption | exact SH.rsR H (by (repeat first | exact At.here | apply At.there); done) | exact SH.rsO H (by (repeat first | exact At.here | apply At.there); done)) (by omega) | exact Rs.toL (by first | assumption | exact SH.rsR H (by (repeat first | exact At.here | apply At.there); done) | exact SH.rsO H (by (repeat first | exact At.here | apply At.there); done)) (by omega) | exact Rs.toLH (by first | assumption | exact SH.rsR H (by (repeat first | exact At.here | apply At.there); done) | exact SH.rsO H (by (repeat first | exact At.here | apply At.there); done)) (by omega) (by omega) | exact (Rs.nil : Rs Non _ _ _)))))) (by rfl) rfl (by decide)
                try dsimp only [replC, List.cons_append, List.nil_append, List.append_nil, agg, cellsL, Value.cells, List.toList_toArray, List.set_cons_zero, List.set_cons_succ, spliceL, List.take_succ_cons, List.take_zero, List.drop_succ_cons, List.drop_zero, List.length_cons, List.length_nil, Nat.reduceAdd, Row.cells, Ses.L] at H
                refine r_call rfl Try.call47 (by simp only [List.map_cons, List.map_nil, List.map_toArray, List.toList_toArray, upd_get, ev, Nat.reduceEqDiff, ↓reduceIte] <;> rfl) (InsS_c (y := ⟨n, num, now⟩) (atS l n) _ (SH.ow H (i := 1) rfl) (SH.ow H (i := 2) rfl) (fun b h1 h2 => (SH.val H).apart (i := 1) (j := 2) rfl rfl (by decide) (.inl trivial) b h2 h1) hal (by omega)) ?_
                rintro _ w8_8 ⟨v8_8, g8_8, rfl, K⟩
                refine ⟨_, rfl, ?_⟩
                replace H := SH.updO H (i := 1) rfl K
                clear K
                try dsimp only [replC, List.cons_append, List.nil_append, List.append_nil, agg, cellsL, Value.cells, List.toList_toArray, List.set_cons_zero, List.set_cons_succ, spliceL, List.take_succ_cons, List.take_zero, List.drop_succ_cons, List.drop_zero, List.length_cons, List.length_nil, Nat.reduceAdd, Row.cells, Ses.L] at H
                refine r_assign rfl ?_
                refine r_assign rfl ?_
                refine LW.nil ?_
                refine thenE_norm ?_
                refine cut (K := K76) [8, 9] (fun σ => ?_)
                simp only [setL, keepE, upd_get, ev, Nat.reduceEqDiff, ↓reduceIte]
                refine h76 _ _ ?_; clear h76; try clear K76
                refine CW.ret (ret2 Try.results29 (by simp only [upd_get, ev, Nat.reduceEqDiff, ↓reduceIte]; rfl) (by simp only [upd_get, ev, Nat.reduceEqDiff, ↓reduceIte]; rfl) ?_)
                first
                  | contradiction
                  | (rw [open_ok hg2_20P (by rw [hf]) (by assumption) (by omega)]; exact ⟨_, _, rfl, (SH.give (SH.sel H [1] (by decide) rfl) (List.Sublist.refl _) (by repeat first | exact trivial | refine ⟨trivial, ?_⟩))⟩)
    · have hg2_20P := hg2_20
      try simp only [decide_eq_true_eq, decide_eq_false_iff_not, Bool.and_eq_true, Bool.or_eq_true, Bool.and_eq_false_iff, Bool.or_eq_false_iff, Bool.not_eq_true', Bool.not_eq_false', beq_iff_eq, bne_iff_ne] at hg2_20P
      refine LW.want rfl rfl hg2_20 ?_
      refine r_move rfl ?_
      refine LW.want rfl rfl hg2_20 ?_
      refine r_not rfl rfl ?_
      refine LW.want rfl rfl hg2_20 ?_
      refine r_move rfl ?_
      refine LW.known (t := 40) (c := true) rfl (by first | rfl | (simp only [decide_eq_true_eq, decide_eq_false_iff_not, Bool.and_eq_true, Bool.or_eq_true, Bool.and_eq_false_iff, Bool.or_eq_false_iff, Bool.not_eq_true', Bool.not_eq_false', beq_iff_eq, bne_iff_ne]; omega) | simp_all) (fun hg2_23 => ?_)
      refine LW.want rfl rfl hg2_23 ?_
      refine r_move rfl ?_
      refine LW.want rfl rfl hg2_23 ?_
      refine r_move rfl ?_
      refine LW.want rfl rfl hg2_23 ?_
      refine r_call rfl Try.call46 (by simp only [List.map_cons, List.map_nil, List.map_toArray, List.toList_toArray, upd_get, ev, Nat.reduceEqDiff, ↓reduceIte] <;> rfl) (numbered_c _ _ (by first | assumption | exact SH.rsR H (by (repeat first | exact At.here | apply At.there); done) | exact SH.rsO H (by (repeat first | exact At.here | apply At.there); done) | exact Rs.toH (by first | assumption | exact SH.rsR H (by (repeat first | exact At.here | apply At.there); done) | exact SH.rsO H (by (repeat first | exact At.here | apply At.there); done)) (by omega) | exact Rs.toL (by first | assumption | exact SH.rsR H (by (repeat first | exact At.here | apply At.there); done) | exact SH.rsO H (by (repeat first | exact At.here | apply At.there); done)) (by omega) | exact Rs.toLH (by first | assumption | exact SH.rsR H (by (repeat first | exact At.here | apply At.there); done) | exact SH.rsO H (by (repeat first | exact At.here | apply At.there); done)) (by omega) (by omega) | exact (Rs.nil : Rs Non _ _ _))) ?_
      rintro _ w2_25 ⟨rfl, X⟩
      refine ⟨_, rfl, ?_⟩
      replace H := SH.same H X
      clear X
      refine LW.want rfl rfl hg2_20 ?_
      refine r_pickT rfl rfl hg2_23 ?_
      refine r_pickF rfl rfl hg2_20 ?_
      refine r_move rfl ?_
      refine LW.splitB (t := 46) rfl (fun hg2_29 => ?_) (fun hg2_29 => ?_)
      · have hg2_29P := hg2_29
        try simp only [decide_eq_true_eq, decide_eq_false_iff_not, Bool.and_eq_true, Bool.or_eq_true, Bool.and_eq_false_iff, Bool.or_eq_false_iff, Bool.not_eq_true', Bool.not_eq_false', beq_iff_eq, bne_iff_ne] at hg2_29P
        refine LW.skip rfl (fun _ e => by cases e; decide) rfl hg2_29 ?_
        refine LW.skip rfl (fun _ e => by cases e; decide) rfl hg2_29 ?_
        refine LW.skipU rfl (fun _ e => by cases e; decide) rfl ?_
        refine LW.skipU rfl (fun _ e => by cases e; decide) rfl ?_
        refine LW.skipU rfl (fun _ e => by cases e; decide) rfl ?_
        refine LW.skipU rfl (fun _ e => by cases e; decide) rfl ?_
        refine LW.skipU rfl (fun _ e => by cases e; decide) rfl ?_
        refine LW.skipU rfl (fun _ e => by cases e; decide) rfl ?_
        refine LW.skipU rfl (fun _ e => by cases e; decide) rfl ?_
        refine LW.skip rfl (fun _ e => by cases e; decide) rfl hg2_29 ?_
        refine LW.skip rfl (fun _ e => by cases e; decide) rfl hg2_29 ?_
        refine LW.skipU rfl (fun _ e => by cases e; decide) rfl ?_
        refine LW.skipU rfl (fun _ e => by cases e; decide) rfl ?_
        refine LW.skipU rfl (fun _ e => by cases e; decide) rfl ?_
        refine LW.skip rfl (fun _ e => by cases e; decide) rfl hg2_29 ?_
        refine r_pickT rfl rfl hg2_29 ?_
        refine LW.nil ?_
        refine thenE_norm ?_
        refine cut (K := K4) [0, 1, 2, 3, 10, 11, 62] (fun σ => ?_)
        simp only [setL, keepE, upd_get, ev, Nat.reduceEqDiff, ↓reduceIte]
        refine h4 _ _ ?_; clear h4; try clear K4
        refine CW.cond rfl (fun hc1 => ?_) (fun hc1 => ?_)
        · try simp only [decide_eq_true_eq, decide_eq_false_iff_not, Bool.and_eq_true, Bool.or_eq_true, Bool.and_eq_false_iff, Bool.or_eq_false_iff, Bool.not_eq_true', Bool.not_eq_false', beq_iff_eq, bne_iff_ne, ne_eq, Decidable.not_not] at hc1
          refine CW.seq (fun K77 h77 => ?_)
          refine CW.region ?_
          refine r_assign rfl ?_
          refine r_assign rfl ?_
          refine LW.nil ?_
          refine thenE_norm (h77 _ _ ?_); clear h77; try clear K77
          refine CW.ret (thenE_ret (ret2 Try.results29 (by simp only [upd_get, ev, Nat.reduceEqDiff, ↓reduceIte]; rfl) (by simp only [upd_get, ev, Nat.reduceEqDiff, ↓reduceIte]; rfl) ?_))
          first
            | contradiction
            | (rw [open_bad hg2_20P]; exact ⟨_, none, rfl, SH.give (H.addO (α := Ses) 52) (by repeat first | exact List.Sublist.refl _ | exact List.nil_sublist _ | apply List.Sublist.cons_cons | apply List.Sublist.cons) ⟨trivial, trivial⟩⟩)
            | (rw [open_dupN (by rw [hf]) hg2_29]; exact ⟨_, none, rfl, SH.give (H.addO (α := Ses) 52) (by repeat first | exact List.Sublist.refl _ | exact List.nil_sublist _ | apply List.Sublist.cons_cons | apply List.Sublist.cons) ⟨trivial, trivial⟩⟩)
            | (rw [open_dupY (by rw [hf]) (by rw [hf]; exact hg2_40P.2) hc1]; exact ⟨_, none, rfl, SH.give (H.addO (α := Ses) 52) (by repeat first | exact List.Sublist.refl _ | exact List.nil_sublist _ | apply List.Sublist.cons_cons | apply List.Sublist.cons) ⟨trivial, trivial⟩⟩)
        · try simp only [decide_eq_true_eq, decide_eq_false_iff_not, Bool.and_eq_true, Bool.or_eq_true, Bool.and_eq_false_iff, Bool.or_eq_false_iff, Bool.not_eq_true', Bool.not_eq_false', beq_iff_eq, bne_iff_ne, ne_eq, Decidable.not_not] at hc1
          refine CW.skip ?_
          refine thenE_norm (h3 _ _ ?_); clear h3; try clear K3
          refine CW.seq (fun K78 h78 => ?_)
          refine CW.seq (fun K79 h79 => ?_)
          refine CW.region ?_
          refine r_move rfl ?_
          refine LW.nil ?_
          refine thenE_norm (h79 _ _ ?_); clear h79; try clear K79
          refine CW.cond rfl (fun hc2 => ?_) (fun hc2 => ?_)
          · try simp only [decide_eq_true_eq, decide_eq_false_iff_not, Bool.and_eq_true, Bool.or_eq_true, Bool.and_eq_false_iff, Bool.or_eq_false_iff, Bool.not_eq_true', Bool.not_eq_false', beq_iff_eq, bne_iff_ne, ne_eq, Decidable.not_not] at hc2
            refine CW.seq (fun K80 h80 => ?_)
            refine CW.region ?_
            refine r_assign rfl ?_
            refine r_assign rfl ?_
            refine LW.nil ?_
            refine thenE_norm (h80 _ _ ?_); clear h80; try clear K80
            refine CW.ret (thenE_ret (ret2 Try.results29 (by simp only [upd_get, ev, Nat.reduceEqDiff, ↓reduceIte]; rfl) (by simp only [upd_get, ev, Nat.reduceEqDiff, ↓reduceIte]; rfl) ?_))
            first
              | contradiction
              | (rw [open_twice hg2_20P (by rw [hf]) (.inr hc1)]; exact ⟨_, none, rfl, SH.give (H.addO (α := Ses) 52) (by repeat first | exact List.Sublist.refl _ | exact List.nil_sublist _ | apply List.Sublist.cons_cons | apply List.Sublist.cons) ⟨trivial, trivial⟩⟩)
              | (rw [open_twice hg2_20P (by rw [hf]) (.inl (by rw [hf]; simpa using hg2_40P))]; exact ⟨_, none, rfl, SH.give (H.addO (α := Ses) 52) (by repeat first | exact List.Sublist.refl _ | exact List.nil_sublist _ | apply List.Sublist.cons_cons | apply List.Sublist.cons) ⟨trivial, trivial⟩⟩)
          · try simp only [decide_eq_true_eq, decide_eq_false_iff_not, Bool.and_eq_true, Bool.or_eq_true, Bool.and_eq_false_iff, Bool.or_eq_false_iff, Bool.not_eq_true', Bool.not_eq_false', beq_iff_eq, bne_iff_ne, ne_eq, Decidable.not_not] at hc2
            refine CW.skip ?_
            refine thenE_norm (h78 _ _ ?_); clear h78; try clear K78
            refine CW.seq (fun K81 h81 => ?_)
            refine CW.seq (fun K82 h82 => ?_)
            refine CW.region ?_
            refine r_move rfl ?_
            first
              | refine r_lenV rfl Try.underlying48 (by simp only [upd_get, ev, Nat.reduceEqDiff, ↓reduceIte] <;> rfl) (by first | assumption | exact SH.rsR H (by (repeat first | exact At.here | apply At.there); done) | exact SH.rsO H (by (repeat first | exact At.here | apply At.there); done) | exact Rs.toH (by first | assumption | exact SH.rsR H (by (repeat first | exact At.here | apply At.there); done) | exact SH.rsO H (by (repeat first | exact At.here | apply At.there); done)) (by omega) | exact Rs.toL (by first | assumption | exact SH.rsR H (by (repeat first | exact At.here | apply At.there); done) | exact SH.rsO H (by (repeat first | exact At.here | apply At.there); done)) (by omega) | exact Rs.toLH (by first | assumption | exact SH.rsR H (by (repeat first | exact At.here | apply At.there); done) | exact SH.rsO H (by (repeat first | exact At.here | apply At.there); done)) (by omega) (by omega) | exact (Rs.nil : Rs Non _ _ _)) ?_
              | refine r_len rfl Try.underlying48 rfl ?_
            refine r_geq rfl rfl rfl ?_
            refine LW.nil ?_
            refine thenE_norm (h82 _ _ ?_); clear h82; try clear K82
            refine CW.cond rfl (fun hc3 => ?_) (fun hc3 => ?_)
            · try simp only [decide_eq_true_eq, decide_eq_false_iff_not, Bool.and_eq_true, Bool.or_eq_true, Bool.and_eq_false_iff, Bool.or_eq_false_iff, Bool.not_eq_true', Bool.not_eq_false', beq_iff_eq, bne_iff_ne, ne_eq, Decidable.not_not] at hc3
              refine CW.seq (fun K83 h83 => ?_)
              refine CW.region ?_
              refine r_assign rfl ?_
              refine r_assign rfl ?_
              refine LW.nil ?_
              refine thenE_norm (h83 _ _ ?_); clear h83; try clear K83
              refine CW.ret (thenE_ret (ret2 Try.results29 (by simp only [upd_get, ev, Nat.reduceEqDiff, ↓reduceIte]; rfl) (by simp only [upd_get, ev, Nat.reduceEqDiff, ↓reduceIte]; rfl) ?_))
              first
                | contradiction
                | (rw [open_full hg2_20P (by rw [hf]) (by assumption) (by omega)]; exact ⟨_, none, rfl, SH.give (H.addO (α := Ses) 52) (by repeat first | exact List.Sublist.refl _ | exact List.nil_sublist _ | apply List.Sublist.cons_cons | apply List.Sublist.cons) ⟨trivial, trivial⟩⟩)
            · try simp only [decide_eq_true_eq, decide_eq_false_iff_not, Bool.and_eq_true, Bool.or_eq_true, Bool.and_eq_false_iff, Bool.or_eq_false_iff, Bool.not_eq_true', Bool.not_eq_false', beq_iff_eq, bne_iff_ne, ne_eq, Decidable.not_not] at hc3
              refine CW.skip ?_
              refine thenE_norm (h81 _ _ ?_); clear h81; try clear K81
              refine CW.seq (fun K84 h84 => ?_)
              refine CW.region ?_
              refine r_move rfl ?_
              refine r_call rfl Try.call44 (by simp only [List.map_cons, List.map_nil, List.map_toArray, List.toList_toArray, upd_get, ev, Nat.reduceEqDiff, ↓reduceIte] <;> rfl) (CloneS_c _ (by first | assumption | exact SH.rsR H (by (repeat first | exact At.here | apply At.there); done) | exact SH.rsO H (by (repeat first | exact At.here | apply At.there); done) | exact Rs.toH (by first | assumption | exact SH.rsR H (by (repeat first | exact At.here | apply At.there); done) | exact SH.rsO H (by (repeat first | exact At.here | apply At.there); done)) (by omega) | exact Rs.toL (by first | assumption | exact SH.rsR H (by (repeat first | exact At.here | apply At.there); done) | exact SH.rsO H (by (repeat first | exact At.here | apply At.there); done)) (by omega) | exact Rs.toLH (by first | assumption | exact SH.rsR H (by (repeat first | exact At.here | apply At.there); done) | exact SH.rsO H (by (repeat first | exact At.here | apply At.there); done)) (by omega) (by omega) | exact (Rs.nil : Rs Non _ _ _)) (by first | omega | (simp only [List.length_append, List.length_cons, List.length_nil]; omega) | (simp; omega))) ?_
              rintro _ w8_1 ⟨v8_1, g8_1, rfl, K⟩
              refine ⟨_, rfl, ?_⟩
              replace H := SH.call H K
              clear K
              try dsimp only [replC, List.cons_append, List.nil_append, List.append_nil, agg, cellsL, Value.cells, List.toList_toArray, List.set_cons_zero, List.set_cons_succ, spliceL, List.take_succ_cons, List.take_zero, List.drop_succ_cons, List.drop_zero, List.length_cons, List.length_nil, Nat.reduceAdd, Row.cells, Ses.L] at H
              refine r_move rfl ?_
              refine r_move rfl ?_
              refine r_move rfl ?_
              refine r_move rfl ?_
              refine r_buildQ rfl Try.underlying52 Try.zeroValue52 rfl (pl := [(0, 1), (1, 1), (2, 1)]) (by intro w; simp [go_sem]) (qs := [(0, [_]), (1, [_]), (2, [_])]) (cs := [_, _, _]) ⟨rfl, cells_one (by simp only [upd_get, ev, Nat.reduceEqDiff, ↓reduceIte] <;> rfl) (by first | rfl | exact Rs.oneC (by first | assumption | exact SH.rsR H (by (repeat first | exact At.here | apply At.there); done) | exact SH.rsO H (by (repeat first | exact At.here | apply At.there); done) | exact Rs.toH (by first | assumption | exact SH.rsR H (by (repeat first | exact At.here | apply At.there); done) | exact SH.rsO H (by (repeat first | exact At.here | apply At.there); done)) (by omega) | exact Rs.toL (by first | assumption | exact SH.rsR H (by (repeat first | exact At.here | apply At.there); done) | exact SH.rsO H (by (repeat first | exact At.here | apply At.there); done)) (by omega) | exact Rs.toLH (by first | assumption | exact SH.rsR H (by (repeat first | exact At.here | apply At.there); done) | exact SH.rsO H (by (repeat first | exact At.here | apply At.there); done)) (by omega) (by omega) | exact (Rs.nil : Rs Non _ _ _))), rfl, cells_one (by simp only [upd_get, ev, Nat.reduceEqDiff, ↓reduceIte] <;> rfl) (by first | rfl | exact Rs.oneC (by first | assumption | exact SH.rsR H (by (repeat first | exact At.here | apply At.there); done) | exact SH.rsO H (by (repeat first | exact At.here | apply At.there); done) | exact Rs.toH (by first | assumption | exact SH.rsR H (by (repeat first | exact At.here | apply At.there); done) | exact SH.rsO H (by (repeat first | exact At.here | apply At.there); done)) (by omega) | exact Rs.toL (by first | assumption | exact SH.rsR H (by (repeat first | exact At.here | apply At.there); done) | exact SH.rsO H (by (repeat first | exact At.here | apply At.there); done)) (by omega) | exact Rs.toLH (by first | assumption | exact SH.rsR H (by (repeat first | exact At.here | apply At.there); done) | exact SH.rsO H (by (repeat first | exact At.here | apply At.there); done)) (by omega) (by omega) | exact (Rs.nil : Rs Non _ _ _))), rfl, cells_one (by simp only [upd_get, ev, Nat.reduceEqDiff, ↓reduceIte] <;> rfl) (by first | rfl | exact Rs.oneC (by first | assumption | exact SH.rsR H (by (repeat first | exact At.here | apply At.there); done) | exact SH.rsO H (by (repeat first | exact At.here | apply At.there); done) | exact Rs.toH (by first | assumption | exact SH.rsR H (by (repeat first | exact At.here | apply At.there); done) | exact SH.rsO H (by (repeat first | exact At.here | apply At.there); done)) (by omega) | exact Rs.toL (by first | assumption | exact SH.rsR H (by (repeat first | exact At.here | apply At.there); done) | exact SH.rsO H (by (repeat first | exact At.here | apply At.there); done)) (by omega) | exact Rs.toLH (by first | assumption | exact SH.rsR H (by (repeat first | exact At.here | apply At.there); done) | exact SH.rsO H (by (repeat first | exact At.here | apply At.there); done)) (by omega) (by omega) | exact (Rs.nil : Rs Non _ _ _))), trivial⟩ rfl ?_
              refine r_buildSliceA (vs := [_]) rfl Try.underlying48 Try.sizeOf52 Try.zeroValue52 rfl rfl rfl rfl (by simp only [List.map_cons, List.map_nil, List.toList_toArray, numbered, Nat.reduceAdd, upd_get, ev, Nat.reduceEqDiff, ↓reduceIte] <;> rfl) rfl (by intro v hv; simp only [List.mem_cons, List.not_mem_nil, or_false] at hv; rcases hv with rfl <;> rfl) ?_
              intro b8_7 w8_7 hb8_7 hs8_7 hE8_7 hB8_7
              replace H := SH.call H (SH.fromB hE8_7 hb8_7 hs8_7 hB8_7)
              clear hb8_7 hs8_7 hE8_7 hB8_7
              try dsimp only [replC, List.cons_append, List.nil_append, List.append_nil, agg, cellsL, Value.cells, List.toList_toArray, List.set_cons_zero, List.set_cons_succ, spliceL, List.take_succ_cons, List.take_zero, List.drop_succ_cons, List.drop_zero, List.length_cons, List.length_nil, Nat.reduceAdd, Row.cells, Ses.L] at H
              replace H := SH.row (b := b8_7) (xs := ([⟨n, num, now⟩] : List Ses)) (n := 1) (cap := 1) H (by (repeat first | exact At.here | apply At.there); done) (by simp only [flat, List.flatMap_cons, List.flatMap_nil, cellsL, agg, List.append_nil, List.cons_append, List.nil_append, List.toList_toArray, Row.cells, Ses.L] <;> rfl) (by intro x hx; first | rfl | (simp at hx; done) | (simp only [List.mem_cons, List.not_mem_nil, or_false] at hx; rcases hx with rfl <;> first | rfl | exact (by first | rfl | exact Rs.oneC (by first | assumption | exact SH.rsR H (by (repeat first | exact At.here | apply At.there); done) | exact SH.rsO H (by (repeat first | exact At.here | apply At.there); done) | exact Rs.toH (by first | assumption | exact SH.rsR H (by (repeat first | exact At.here | apply At.there); done) | exact SH.rsO H (by (repeat first | exact At.here | apply At.there); done)) (by omega) | exact Rs.toL (by first | assumption | exact SH.rsR H (by (repeat first | exact At.here | apply At.there); done) | exact SH.rsO H (by (repeat first | exact At.here | apply At.there); done)) (by omega) | exact Rs.toLH (by first | assumption | exact SH.rsR H (by (repeat first | exact At.here | apply At.there); done) | exact SH.rsO H (by (repeat first | exact At.here | apply At.there); done)) (by omega) (by omega) | exact (Rs.nil : Rs Non _ _ _)) | (simp only [List.all_cons, List.all_nil, Bool.and_true, Bool.and_eq_true, Row.cells, Ses.L]; (repeat' constructor) <;> first | rfl | exact Rs.oneC (by first | assumption | exact SH.rsR H (by (repeat first | exact At.here | apply At.there); done) | exact SH.rsO H (by (repeat first | exact At.here | apply At.there); done) | exact Rs.toH (by first | assumption | exact SH.rsR H (by (repeat first | exact At.here | apply At.there); done) | exact SH.rsO H (by (repeat first | exact At.here | apply At.there); done)) (by omega) | exact Rs.toL (by first | assumption | exact SH.rsR H (by (repeat first | exact At.here | apply At.there); done) | exact SH.rsO H (by (repeat first | exact At.here | apply At.there); done)) (by omega) | exact Rs.toLH (by first | assumption | exact SH.rsR H (by (repeat first | exact At.here | apply At.there); done) | exact SH.rsO H (by (repeat first | exact At.here | apply At.there); done)) (by omega) (by omega) | exact (Rs.nil : Rs Non _ _ _)))))) (by rfl) rfl (by decide)
              try dsimp only [replC, List.cons_append, List.nil_append, List.append_nil, agg, cellsL, Value.cells, List.toList_toArray, List.set_cons_zero, List.set_cons_succ, spliceL, List.take_succ_cons, List.take_zero, List.drop_succ_cons, List.drop_zero, List.length_cons, List.length_nil, Nat.reduceAdd, Row.cells, Ses.L] at H
              refine r_call rfl Try.call47 (by simp only [List.map_cons, List.map_nil, List.map_toArray, List.toList_toArray, upd_get, ev, Nat.reduceEqDiff, ↓reduceIte] <;> rfl) (InsS_c (y := ⟨n, num, now⟩) (atS l n) _ (SH.ow H (i := 1) rfl) (SH.ow H (i := 2) rfl) (fun b h1 h2 => (SH.val H).apart (i := 1) (j := 2) rfl rfl (by decide) (.inl trivial) b h2 h1) hal (by omega)) ?_
              rintro _ w8_8 ⟨v8_8, g8_8, rfl, K⟩
              refine ⟨_, rfl, ?_⟩
              replace H := SH.updO H (i := 1) rfl K
              clear K
              try dsimp only [replC, List.cons_append, List.nil_append, List.append_nil, agg, cellsL, Value.cells, List.toList_toArray, List.set_cons_zero, List.set_cons_succ, spliceL, List.take_succ_cons, List.take_zero, List.drop_succ_cons, List.drop_zero, List.length_cons, List.length_nil, Nat.reduceAdd, Row.cells, Ses.L] at H
              refine r_assign rfl ?_
              refine r_assign rfl ?_
              refine LW.nil ?_
              refine thenE_norm ?_
              refine cut (K := K84) [8, 9] (fun σ => ?_)
              simp only [setL, keepE, upd_get, ev, Nat.reduceEqDiff, ↓reduceIte]
              refine h84 _ _ ?_; clear h84; try clear K84
              refine CW.ret (ret2 Try.results29 (by simp only [upd_get, ev, Nat.reduceEqDiff, ↓reduceIte]; rfl) (by simp only [upd_get, ev, Nat.reduceEqDiff, ↓reduceIte]; rfl) ?_)
              first
                | contradiction
                | (rw [open_ok hg2_20P (by rw [hf]) (by assumption) (by omega)]; exact ⟨_, _, rfl, (SH.give (SH.sel H [1] (by decide) rfl) (List.Sublist.refl _) (by repeat first | exact trivial | refine ⟨trivial, ?_⟩))⟩)
      · have hg2_29P := hg2_29
        try simp only [decide_eq_true_eq, decide_eq_false_iff_not, Bool.and_eq_true, Bool.or_eq_true, Bool.and_eq_false_iff, Bool.or_eq_false_iff, Bool.not_eq_true', Bool.not_eq_false', beq_iff_eq, bne_iff_ne] at hg2_29P
        refine LW.want rfl rfl hg2_29 ?_
        refine r_move rfl ?_
        refine LW.want rfl rfl hg2_29 ?_
        refine r_move rfl ?_
        refine LW.known (t := 48) (c := false) rfl (by first | rfl | (simp only [decide_eq_true_eq, decide_eq_false_iff_not, Bool.and_eq_true, Bool.or_eq_true, Bool.and_eq_false_iff, Bool.or_eq_false_iff, Bool.not_eq_true', Bool.not_eq_false', beq_iff_eq, bne_iff_ne]; omega) | simp_all) (fun hg2_31 => ?_)
        refine LW.skip rfl (fun _ e => by cases e; decide) rfl hg2_31 ?_
        refine LW.skip rfl (fun _ e => by cases e; decide) rfl hg2_31 ?_
        refine LW.skip rfl (fun _ e => by cases e; decide) rfl hg2_31 ?_
        refine LW.skip rfl (fun _ e => by cases e; decide) rfl hg2_31 ?_
        refine LW.skip rfl (fun _ e => by cases e; decide) rfl hg2_31 ?_
        refine LW.skip rfl (fun _ e => by cases e; decide) rfl hg2_31 ?_
        refine LW.skip rfl (fun _ e => by cases e; decide) rfl hg2_31 ?_
        refine LW.want rfl rfl hg2_29 ?_
        refine r_pickF rfl rfl hg2_31 ?_
        refine LW.want rfl rfl hg2_29 ?_
        refine r_move rfl ?_
        refine LW.splitB (t := 57) rfl (fun hg2_40 => ?_) (fun hg2_40 => ?_)
        · have hg2_40P := hg2_40
          try simp only [decide_eq_true_eq, decide_eq_false_iff_not, Bool.and_eq_true, Bool.or_eq_true, Bool.and_eq_false_iff, Bool.or_eq_false_iff, Bool.not_eq_true', Bool.not_eq_false', beq_iff_eq, bne_iff_ne] at hg2_40P
          refine LW.want rfl rfl hg2_40 ?_
          refine r_move rfl ?_
          refine LW.want rfl rfl hg2_40 ?_
          refine r_move rfl ?_
          refine LW.want rfl rfl hg2_40 ?_
          refine r_call rfl Try.call46 (by simp only [List.map_cons, List.map_nil, List.map_toArray, List.toList_toArray, upd_get, ev, Nat.reduceEqDiff, ↓reduceIte] <;> rfl) (numbered_c _ _ (by first | assumption | exact SH.rsR H (by (repeat first | exact At.here | apply At.there); done) | exact SH.rsO H (by (repeat first | exact At.here | apply At.there); done) | exact Rs.toH (by first | assumption | exact SH.rsR H (by (repeat first | exact At.here | apply At.there); done) | exact SH.rsO H (by (repeat first | exact At.here | apply At.there); done)) (by omega) | exact Rs.toL (by first | assumption | exact SH.rsR H (by (repeat first | exact At.here | apply At.there); done) | exact SH.rsO H (by (repeat first | exact At.here | apply At.there); done)) (by omega) | exact Rs.toLH (by first | assumption | exact SH.rsR H (by (repeat first | exact At.here | apply At.there); done) | exact SH.rsO H (by (repeat first | exact At.here | apply At.there); done)) (by omega) (by omega) | exact (Rs.nil : Rs Non _ _ _))) ?_
          rintro _ w2_42 ⟨rfl, X⟩
          refine ⟨_, rfl, ?_⟩
          replace H := SH.same H X
          clear X
          refine LW.want rfl rfl hg2_29 ?_
          refine r_pickT rfl rfl hg2_40 ?_
          refine r_pickF rfl rfl hg2_29 ?_
          refine LW.nil ?_
          refine thenE_norm ?_
          refine cut (K := K4) [0, 1, 2, 3, 10, 11, 62] (fun σ => ?_)
          simp only [setL, keepE, upd_get, ev, Nat.reduceEqDiff, ↓reduceIte]
          refine h4 _ _ ?_; clear h4; try clear K4
          refine CW.cond rfl (fun hc1 => ?_) (fun hc1 => ?_)
          · try simp only [decide_eq_true_eq, decide_eq_false_iff_not, Bool.and_eq_true, Bool.or_eq_true, Bool.and_eq_false_iff, Bool.or_eq_false_iff, Bool.not_eq_true', Bool.not_eq_false', beq_iff_eq, bne_iff_ne, ne_eq, Decidable.not_not] at hc1
            refine CW.seq (fun K85 h85 => ?_)
            refine CW.region ?_
            refine r_assign rfl ?_
            refine r_assign rfl ?_
            refine LW.nil ?_
            refine thenE_norm (h85 _ _ ?_); clear h85; try clear K85
            refine CW.ret (thenE_ret (ret2 Try.results29 (by simp only [upd_get, ev, Nat.reduceEqDiff, ↓reduceIte]; rfl) (by simp only [upd_get, ev, Nat.reduceEqDiff, ↓reduceIte]; rfl) ?_))
            first
              | contradiction
              | (rw [open_bad hg2_20P]; exact ⟨_, none, rfl, SH.give (H.addO (α := Ses) 52) (by repeat first | exact List.Sublist.refl _ | exact List.nil_sublist _ | apply List.Sublist.cons_cons | apply List.Sublist.cons) ⟨trivial, trivial⟩⟩)
              | (rw [open_dupN (by rw [hf]) hg2_29]; exact ⟨_, none, rfl, SH.give (H.addO (α := Ses) 52) (by repeat first | exact List.Sublist.refl _ | exact List.nil_sublist _ | apply List.Sublist.cons_cons | apply List.Sublist.cons) ⟨trivial, trivial⟩⟩)
              | (rw [open_dupY (by rw [hf]) (by rw [hf]; exact hg2_40P.2) hc1]; exact ⟨_, none, rfl, SH.give (H.addO (α := Ses) 52) (by repeat first | exact List.Sublist.refl _ | exact List.nil_sublist _ | apply List.Sublist.cons_cons | apply List.Sublist.cons) ⟨trivial, trivial⟩⟩)
          · try simp only [decide_eq_true_eq, decide_eq_false_iff_not, Bool.and_eq_true, Bool.or_eq_true, Bool.and_eq_false_iff, Bool.or_eq_false_iff, Bool.not_eq_true', Bool.not_eq_false', beq_iff_eq, bne_iff_ne, ne_eq, Decidable.not_not] at hc1
            refine CW.skip ?_
            refine thenE_norm (h3 _ _ ?_); clear h3; try clear K3
            refine CW.seq (fun K86 h86 => ?_)
            refine CW.seq (fun K87 h87 => ?_)
            refine CW.region ?_
            refine r_move rfl ?_
            refine LW.nil ?_
            refine thenE_norm (h87 _ _ ?_); clear h87; try clear K87
            refine CW.cond rfl (fun hc2 => ?_) (fun hc2 => ?_)
            · try simp only [decide_eq_true_eq, decide_eq_false_iff_not, Bool.and_eq_true, Bool.or_eq_true, Bool.and_eq_false_iff, Bool.or_eq_false_iff, Bool.not_eq_true', Bool.not_eq_false', beq_iff_eq, bne_iff_ne, ne_eq, Decidable.not_not] at hc2
              refine CW.seq (fun K88 h88 => ?_)
              refine CW.region ?_
              refine r_assign rfl ?_
              refine r_assign rfl ?_
              refine LW.nil ?_
              refine thenE_norm (h88 _ _ ?_); clear h88; try clear K88
              refine CW.ret (thenE_ret (ret2 Try.results29 (by simp only [upd_get, ev, Nat.reduceEqDiff, ↓reduceIte]; rfl) (by simp only [upd_get, ev, Nat.reduceEqDiff, ↓reduceIte]; rfl) ?_))
              first
                | contradiction
                | (rw [open_twice hg2_20P (by rw [hf]) (.inr hc1)]; exact ⟨_, none, rfl, SH.give (H.addO (α := Ses) 52) (by repeat first | exact List.Sublist.refl _ | exact List.nil_sublist _ | apply List.Sublist.cons_cons | apply List.Sublist.cons) ⟨trivial, trivial⟩⟩)
                | (rw [open_twice hg2_20P (by rw [hf]) (.inl (by rw [hf]; simpa using hg2_40P))]; exact ⟨_, none, rfl, SH.give (H.addO (α := Ses) 52) (by repeat first | exact List.Sublist.refl _ | exact List.nil_sublist _ | apply List.Sublist.cons_cons | apply List.Sublist.cons) ⟨trivial, trivial⟩⟩)
            · try simp only [decide_eq_true_eq, decide_eq_false_iff_not, Bool.and_eq_true, Bool.or_eq_true, Bool.and_eq_false_iff, Bool.or_eq_false_iff, Bool.not_eq_true', Bool.not_eq_false', beq_iff_eq, bne_iff_ne, ne_eq, Decidable.not_not] at hc2
              refine CW.skip ?_
              refine thenE_norm (h86 _ _ ?_); clear h86; try clear K86
              refine CW.seq (fun K89 h89 => ?_)
              refine CW.seq (fun K90 h90 => ?_)
              refine CW.region ?_
              refine r_move rfl ?_
              first
                | refine r_lenV rfl Try.underlying48 (by simp only [upd_get, ev, Nat.reduceEqDiff, ↓reduceIte] <;> rfl) (by first | assumption | exact SH.rsR H (by (repeat first | exact At.here | apply At.there); done) | exact SH.rsO H (by (repeat first | exact At.here | apply At.there); done) | exact Rs.toH (by first | assumption | exact SH.rsR H (by (repeat first | exact At.here | apply At.there); done) | exact SH.rsO H (by (repeat first | exact At.here | apply At.there); done)) (by omega) | exact Rs.toL (by first | assumption | exact SH.rsR H (by (repeat first | exact At.here | apply At.there); done) | exact SH.rsO H (by (repeat first | exact At.here | apply At.there); done)) (by omega) | exact Rs.toLH (by first | assumption | exact SH.rsR H (by (repeat first | exact At.here | apply At.there); done) | exact SH.rsO H (by (repeat first | exact At.here | apply At.there); done)) (by omega) (by omega) | exact (Rs.nil : Rs Non _ _ _)) ?_
                | refine r_len rfl Try.underlying48 rfl ?_
              refine r_geq rfl rfl rfl ?_
              refine LW.nil ?_
              refine thenE_norm (h90 _ _ ?_); clear h90; try clear K90
              refine CW.cond rfl (fun hc3 => ?_) (fun hc3 => ?_)
              · try simp only [decide_eq_true_eq, decide_eq_false_iff_not, Bool.and_eq_true, Bool.or_eq_true, Bool.and_eq_false_iff, Bool.or_eq_false_iff, Bool.not_eq_true', Bool.not_eq_false', beq_iff_eq, bne_iff_ne, ne_eq, Decidable.not_not] at hc3
                refine CW.seq (fun K91 h91 => ?_)
                refine CW.region ?_
                refine r_assign rfl ?_
                refine r_assign rfl ?_
                refine LW.nil ?_
                refine thenE_norm (h91 _ _ ?_); clear h91; try clear K91
                refine CW.ret (thenE_ret (ret2 Try.results29 (by simp only [upd_get, ev, Nat.reduceEqDiff, ↓reduceIte]; rfl) (by simp only [upd_get, ev, Nat.reduceEqDiff, ↓reduceIte]; rfl) ?_))
                first
                  | contradiction
                  | (rw [open_full hg2_20P (by rw [hf]) (by assumption) (by omega)]; exact ⟨_, none, rfl, SH.give (H.addO (α := Ses) 52) (by repeat first | exact List.Sublist.refl _ | exact List.nil_sublist _ | apply List.Sublist.cons_cons | apply List.Sublist.cons) ⟨trivial, trivial⟩⟩)
              · try simp only [decide_eq_true_eq, decide_eq_false_iff_not, Bool.and_eq_true, Bool.or_eq_true, Bool.and_eq_false_iff, Bool.or_eq_false_iff, Bool.not_eq_true', Bool.not_eq_false', beq_iff_eq, bne_iff_ne, ne_eq, Decidable.not_not] at hc3
                refine CW.skip ?_
                refine thenE_norm (h89 _ _ ?_); clear h89; try clear K89
                refine CW.seq (fun K92 h92 => ?_)
                refine CW.region ?_
                refine r_move rfl ?_
                refine r_call rfl Try.call44 (by simp only [List.map_cons, List.map_nil, List.map_toArray, List.toList_toArray, upd_get, ev, Nat.reduceEqDiff, ↓reduceIte] <;> rfl) (CloneS_c _ (by first | assumption | exact SH.rsR H (by (repeat first | exact At.here | apply At.there); done) | exact SH.rsO H (by (repeat first | exact At.here | apply At.there); done) | exact Rs.toH (by first | assumption | exact SH.rsR H (by (repeat first | exact At.here | apply At.there); done) | exact SH.rsO H (by (repeat first | exact At.here | apply At.there); done)) (by omega) | exact Rs.toL (by first | assumption | exact SH.rsR H (by (repeat first | exact At.here | apply At.there); done) | exact SH.rsO H (by (repeat first | exact At.here | apply At.there); done)) (by omega) | exact Rs.toLH (by first | assumption | exact SH.rsR H (by (repeat first | exact At.here | apply At.there); done) | exact SH.rsO H (by (repeat first | exact At.here | apply At.there); done)) (by omega) (by omega) | exact (Rs.nil : Rs Non _ _ _)) (by first | omega | (simp only [List.length_append, List.length_cons, List.length_nil]; omega) | (simp; omega))) ?_
                rintro _ w8_1 ⟨v8_1, g8_1, rfl, K⟩
                refine ⟨_, rfl, ?_⟩
                replace H := SH.call H K
                clear K
                try dsimp only [replC, List.cons_append, List.nil_append, List.append_nil, agg, cellsL, Value.cells, List.toList_toArray, List.set_cons_zero, List.set_cons_succ, spliceL, List.take_succ_cons, List.take_zero, List.drop_succ_cons, List.drop_zero, List.length_cons, List.length_nil, Nat.reduceAdd, Row.cells, Ses.L] at H
                refine r_move rfl ?_
                refine r_move rfl ?_
                refine r_move rfl ?_
                refine r_move rfl ?_
                refine r_buildQ rfl Try.underlying52 Try.zeroValue52 rfl (pl := [(0, 1), (1, 1), (2, 1)]) (by intro w; simp [go_sem]) (qs := [(0, [_]), (1, [_]), (2, [_])]) (cs := [_, _, _]) ⟨rfl, cells_one (by simp only [upd_get, ev, Nat.reduceEqDiff, ↓reduceIte] <;> rfl) (by first | rfl | exact Rs.oneC (by first | assumption | exact SH.rsR H (by (repeat first | exact At.here | apply At.there); done) | exact SH.rsO H (by (repeat first | exact At.here | apply At.there); done) | exact Rs.toH (by first | assumption | exact SH.rsR H (by (repeat first | exact At.here | apply At.there); done) | exact SH.rsO H (by (repeat first | exact At.here | apply At.there); done)) (by omega) | exact Rs.toL (by first | assumption | exact SH.rsR H (by (repeat first | exact At.here | apply At.there); done) | exact SH.rsO H (by (repeat first | exact At.here | apply At.there); done)) (by omega) | exact Rs.toLH (by first | assumption | exact SH.rsR H (by (repeat first | exact At.here | apply At.there); done) | exact SH.rsO H (by (repeat first | exact At.here | apply At.there); done)) (by omega) (by omega) | exact (Rs.nil : Rs Non _ _ _))), rfl, cells_one (by simp only [upd_get, ev, Nat.reduceEqDiff, ↓reduceIte] <;> rfl) (by first | rfl | exact Rs.oneC (by first | assumption | exact SH.rsR H (by (repeat first | exact At.here | apply At.there); done) | exact SH.rsO H (by (repeat first | exact At.here | apply At.there); done) | exact Rs.toH (by first | assumption | exact SH.rsR H (by (repeat first | exact At.here | apply At.there); done) | exact SH.rsO H (by (repeat first | exact At.here | apply At.there); done)) (by omega) | exact Rs.toL (by first | assumption | exact SH.rsR H (by (repeat first | exact At.here | apply At.there); done) | exact SH.rsO H (by (repeat first | exact At.here | apply At.there); done)) (by omega) | exact Rs.toLH (by first | assumption | exact SH.rsR H (by (repeat first | exact At.here | apply At.there); done) | exact SH.rsO H (by (repeat first | exact At.here | apply At.there); done)) (by omega) (by omega) | exact (Rs.nil : Rs Non _ _ _))), rfl, cells_one (by simp only [upd_get, ev, Nat.reduceEqDiff, ↓reduceIte] <;> rfl) (by first | rfl | exact Rs.oneC (by first | assumption | exact SH.rsR H (by (repeat first | exact At.here | apply At.there); done) | exact SH.rsO H (by (repeat first | exact At.here | apply At.there); done) | exact Rs.toH (by first | assumption | exact SH.rsR H (by (repeat first | exact At.here | apply At.there); done) | exact SH.rsO H (by (repeat first | exact At.here | apply At.there); done)) (by omega) | exact Rs.toL (by first | assumption | exact SH.rsR H (by (repeat first | exact At.here | apply At.there); done) | exact SH.rsO H (by (repeat first | exact At.here | apply At.there); done)) (by omega) | exact Rs.toLH (by first | assumption | exact SH.rsR H (by (repeat first | exact At.here | apply At.there); done) | exact SH.rsO H (by (repeat first | exact At.here | apply At.there); done)) (by omega) (by omega) | exact (Rs.nil : Rs Non _ _ _))), trivial⟩ rfl ?_
                refine r_buildSliceA (vs := [_]) rfl Try.underlying48 Try.sizeOf52 Try.zeroValue52 rfl rfl rfl rfl (by simp only [List.map_cons, List.map_nil, List.toList_toArray, numbered, Nat.reduceAdd, upd_get, ev, Nat.reduceEqDiff, ↓reduceIte] <;> rfl) rfl (by intro v hv; simp only [List.mem_cons, List.not_mem_nil, or_false] at hv; rcases hv with rfl <;> rfl) ?_
                intro b8_7 w8_7 hb8_7 hs8_7 hE8_7 hB8_7
                replace H := SH.call H (SH.fromB hE8_7 hb8_7 hs8_7 hB8_7)
                clear hb8_7 hs8_7 hE8_7 hB8_7
                try dsimp only [replC, List.cons_append, List.nil_append, List.append_nil, agg, cellsL, Value.cells, List.toList_toArray, List.set_cons_zero, List.set_cons_succ, spliceL, List.take_succ_cons, List.take_zero, List.drop_succ_cons, List.drop_zero, List.length_cons, List.length_nil, Nat.reduceAdd, Row.cells, Ses.L] at H
                replace H := SH.row (b := b8_7) (xs := ([⟨n, num, now⟩] : List Ses)) (n := 1) (cap := 1) H (by (repeat first | exact At.here | apply At.there); done) (by simp only [flat, List.flatMap_cons, List.flatMap_nil, cellsL, agg, List.append_nil, List.cons_append, List.nil_append, List.toList_toArray, Row.cells, Ses.L] <;> rfl) (by intro x hx; first | rfl | (simp at hx; done) | (simp only [List.mem_cons, List.not_mem_nil, or_false] at hx; rcases hx with rfl <;> first | rfl | exact (by first | rfl | exact Rs.oneC (by first | assumption | exact SH.rsR H (by (repeat first | exact At.here | apply At.there); done) | exact SH.rsO H (by (repeat first | exact At.here | apply At.there); done) | exact Rs.toH (by first | assumption | exact SH.rsR H (by (repeat first | exact At.here | apply At.there); done) | exact SH.rsO H (by (repeat first | exact At.here | apply At.there); done)) (by omega) | exact Rs.toL (by first | assumption | exact SH.rsR H (by (repeat first | exact At.here | apply At.there); done) | exact SH.rsO H (by (repeat first | exact At.here | apply At.there); done)) (by omega) | exact Rs.toLH (by first | assumption | exact SH.rsR H (by (repeat first | exact At.here | apply At.there); done) | exact SH.rsO H (by (repeat first | exact At.here | apply At.there); done)) (by omega) (by omega) | exact (Rs.nil : Rs Non _ _ _)) | (simp only [List.all_cons, List.all_nil, Bool.and_true, Bool.and_eq_true, Row.cells, Ses.L]; (repeat' constructor) <;> first | rfl | exact Rs.oneC (by first | assumption | exact SH.rsR H (by (repeat first | exact At.here | apply At.there); done) | exact SH.rsO H (by (repeat first | exact At.here | apply At.there); done) | exact Rs.toH (by first | assumption | exact SH.rsR H (by (repeat first | exact At.here | apply At.there); done) | exact SH.rsO H (by (repeat first | exact At.here | apply At.there); done)) (by omega) | exact Rs.toL (by first | assumption | exact SH.rsR H (by (repeat first | exact At.here | apply At.there); done) | exact SH.rsO H (by (repeat first | exact At.here | apply At.there); done)) (by omega) | exact Rs.toLH (by first | assumption | exact SH.rsR H (by (repeat first | exact At.here | apply At.there); done) | exact SH.rsO H (by (repeat first | exact At.here | apply At.there); done)) (by omega) (by omega) | exact (Rs.nil : Rs Non _ _ _)))))) (by rfl) rfl (by decide)
                try dsimp only [replC, List.cons_append, List.nil_append, List.append_nil, agg, cellsL, Value.cells, List.toList_toArray, List.set_cons_zero, List.set_cons_succ, spliceL, List.take_succ_cons, List.take_zero, List.drop_succ_cons, List.drop_zero, List.length_cons, List.length_nil, Nat.reduceAdd, Row.cells, Ses.L] at H
                refine r_call rfl Try.call47 (by simp only [List.map_cons, List.map_nil, List.map_toArray, List.toList_toArray, upd_get, ev, Nat.reduceEqDiff, ↓reduceIte] <;> rfl) (InsS_c (y := ⟨n, num, now⟩) (atS l n) _ (SH.ow H (i := 1) rfl) (SH.ow H (i := 2) rfl) (fun b h1 h2 => (SH.val H).apart (i := 1) (j := 2) rfl rfl (by decide) (.inl trivial) b h2 h1) hal (by omega)) ?_
                rintro _ w8_8 ⟨v8_8, g8_8, rfl, K⟩
                refine ⟨_, rfl, ?_⟩
                replace H := SH.updO H (i := 1) rfl K
                clear K
                try dsimp only [replC, List.cons_append, List.nil_append, List.append_nil, agg, cellsL, Value.cells, List.toList_toArray, List.set_cons_zero, List.set_cons_succ, spliceL, List.take_succ_cons, List.take_zero, List.drop_succ_cons, List.drop_zero, List.length_cons, List.length_nil, Nat.reduceAdd, Row.cells, Ses.L] at H
                refine r_assign rfl ?_
                refine r_assign rfl ?_
                refine LW.nil ?_
                refine thenE_norm ?_
                refine cut (K := K92) [8, 9] (fun σ => ?_)
                simp only [setL, keepE, upd_get, ev, Nat.reduceEqDiff, ↓reduceIte]
                refine h92 _ _ ?_; clear h92; try clear K92
                refine CW.ret (ret2 Try.results29 (by simp only [upd_get, ev, Nat.reduceEqDiff, ↓reduceIte]; rfl) (by simp only [upd_get, ev, Nat.reduceEqDiff, ↓reduceIte]; rfl) ?_)
                first
                  | contradiction
                  | (rw [open_ok hg2_20P (by rw [hf]) (by assumption) (by omega)]; exact ⟨_, _, rfl, (SH.give (SH.sel H [1] (by decide) rfl) (List.Sublist.refl _) (by repeat first | exact trivial | refine ⟨trivial, ?_⟩))⟩)
        · have hg2_40P := hg2_40
          try simp only [decide_eq_true_eq, decide_eq_false_iff_not, Bool.and_eq_true, Bool.or_eq_true, Bool.and_eq_false_iff, Bool.or_eq_false_iff, Bool.not_eq_true', Bool.not_eq_false', beq_iff_eq, bne_iff_ne] at hg2_40P
          refine LW.skip rfl (fun _ e => by cases e; decide) rfl hg2_40 ?_
          refine LW.skip rfl (fun _ e => by cases e; decide) rfl hg2_40 ?_
          refine LW.skip rfl (fun _ e => by cases e; decide) rfl hg2_40 ?_
          refine LW.want rfl rfl hg2_29 ?_
          refine r_pickF rfl rfl hg2_40 ?_
          refine r_pickF rfl rfl hg2_29 ?_
          refine LW.nil ?_
          refine thenE_norm ?_
          refine cut (K := K4) [0, 1, 2, 3, 10, 11, 62] (fun σ => ?_)
          simp only [setL, keepE, upd_get, ev, Nat.reduceEqDiff, ↓reduceIte]
          refine h4 _ _ ?_; clear h4; try clear K4
          refine CW.cond rfl (fun hc1 => ?_) (fun hc1 => ?_)
          · try simp only [decide_eq_true_eq, decide_eq_false_iff_not, Bool.and_eq_true, Bool.or_eq_true, Bool.and_eq_false_iff, Bool.or_eq_false_iff, Bool.not_eq_true', Bool.not_eq_false', beq_iff_eq, bne_iff_ne, ne_eq, Decidable.not_not] at hc1
            refine CW.seq (fun K93 h93 => ?_)
            refine CW.region ?_
            refine r_assign rfl ?_
            refine r_assign rfl ?_
            refine LW.nil ?_
            refine thenE_norm (h93 _ _ ?_); clear h93; try clear K93
            refine CW.ret (thenE_ret (ret2 Try.results29 (by simp only [upd_get, ev, Nat.reduceEqDiff, ↓reduceIte]; rfl) (by simp only [upd_get, ev, Nat.reduceEqDiff, ↓reduceIte]; rfl) ?_))
            first
              | contradiction
              | (rw [open_bad hg2_20P]; exact ⟨_, none, rfl, SH.give (H.addO (α := Ses) 52) (by repeat first | exact List.Sublist.refl _ | exact List.nil_sublist _ | apply List.Sublist.cons_cons | apply List.Sublist.cons) ⟨trivial, trivial⟩⟩)
              | (rw [open_dupN (by rw [hf]) hg2_29]; exact ⟨_, none, rfl, SH.give (H.addO (α := Ses) 52) (by repeat first | exact List.Sublist.refl _ | exact List.nil_sublist _ | apply List.Sublist.cons_cons | apply List.Sublist.cons) ⟨trivial, trivial⟩⟩)
              | (rw [open_dupY (by rw [hf]) (by rw [hf]; exact hg2_40P.2) hc1]; exact ⟨_, none, rfl, SH.give (H.addO (α := Ses) 52) (by repeat first | exact List.Sublist.refl _ | exact List.nil_sublist _ | apply List.Sublist.cons_cons | apply List.Sublist.cons) ⟨trivial, trivial⟩⟩)
          · try simp only [decide_eq_true_eq, decide_eq_false_iff_not, Bool.and_eq_true, Bool.or_eq_true, Bool.and_eq_false_iff, Bool.or_eq_false_iff, Bool.not_eq_true', Bool.not_eq_false', beq_iff_eq, bne_iff_ne, ne_eq, Decidable.not_not] at hc1
            refine CW.skip ?_
            refine thenE_norm (h3 _ _ ?_); clear h3; try clear K3
            refine CW.seq (fun K94 h94 => ?_)
            refine CW.seq (fun K95 h95 => ?_)
            refine CW.region ?_
            refine r_move rfl ?_
            refine LW.nil ?_
            refine thenE_norm (h95 _ _ ?_); clear h95; try clear K95
            refine CW.cond rfl (fun hc2 => ?_) (fun hc2 => ?_)
            · try simp only [decide_eq_true_eq, decide_eq_false_iff_not, Bool.and_eq_true, Bool.or_eq_true, Bool.and_eq_false_iff, Bool.or_eq_false_iff, Bool.not_eq_true', Bool.not_eq_false', beq_iff_eq, bne_iff_ne, ne_eq, Decidable.not_not] at hc2
              refine CW.seq (fun K96 h96 => ?_)
              refine CW.region ?_
              refine r_assign rfl ?_
              refine r_assign rfl ?_
              refine LW.nil ?_
              refine thenE_norm (h96 _ _ ?_); clear h96; try clear K96
              refine CW.ret (thenE_ret (ret2 Try.results29 (by simp only [upd_get, ev, Nat.reduceEqDiff, ↓reduceIte]; rfl) (by simp only [upd_get, ev, Nat.reduceEqDiff, ↓reduceIte]; rfl) ?_))
              first
                | contradiction
                | (rw [open_twice hg2_20P (by rw [hf]) (.inr hc1)]; exact ⟨_, none, rfl, SH.give (H.addO (α := Ses) 52) (by repeat first | exact List.Sublist.refl _ | exact List.nil_sublist _ | apply List.Sublist.cons_cons | apply List.Sublist.cons) ⟨trivial, trivial⟩⟩)
                | (rw [open_twice hg2_20P (by rw [hf]) (.inl (by rw [hf]; simpa using hg2_40P))]; exact ⟨_, none, rfl, SH.give (H.addO (α := Ses) 52) (by repeat first | exact List.Sublist.refl _ | exact List.nil_sublist _ | apply List.Sublist.cons_cons | apply List.Sublist.cons) ⟨trivial, trivial⟩⟩)
            · try simp only [decide_eq_true_eq, decide_eq_false_iff_not, Bool.and_eq_true, Bool.or_eq_true, Bool.and_eq_false_iff, Bool.or_eq_false_iff, Bool.not_eq_true', Bool.not_eq_false', beq_iff_eq, bne_iff_ne, ne_eq, Decidable.not_not] at hc2
              refine CW.skip ?_
              refine thenE_norm (h94 _ _ ?_); clear h94; try clear K94
              refine CW.seq (fun K97 h97 => ?_)
              refine CW.seq (fun K98 h98 => ?_)
              refine CW.region ?_
              refine r_move rfl ?_
              first
                | refine r_lenV rfl Try.underlying48 (by simp only [upd_get, ev, Nat.reduceEqDiff, ↓reduceIte] <;> rfl) (by first | assumption | exact SH.rsR H (by (repeat first | exact At.here | apply At.there); done) | exact SH.rsO H (by (repeat first | exact At.here | apply At.there); done) | exact Rs.toH (by first | assumption | exact SH.rsR H (by (repeat first | exact At.here | apply At.there); done) | exact SH.rsO H (by (repeat first | exact At.here | apply At.there); done)) (by omega) | exact Rs.toL (by first | assumption | exact SH.rsR H (by (repeat first | exact At.here | apply At.there); done) | exact SH.rsO H (by (repeat first | exact At.here | apply At.there); done)) (by omega) | exact Rs.toLH (by first | assumption | exact SH.rsR H (by (repeat first | exact At.here | apply At.there); done) | exact SH.rsO H (by (repeat first | exact At.here | apply At.there); done)) (by omega) (by omega) | exact (Rs.nil : Rs Non _ _ _)) ?_
                | refine r_len rfl Try.underlying48 rfl ?_
              refine r_geq rfl rfl rfl ?_
              refine LW.nil ?_
              refine thenE_norm (h98 _ _ ?_); clear h98; try clear K98
              refine CW.cond rfl (fun hc3 => ?_) (fun hc3 => ?_)
              · try simp only [decide_eq_true_eq, decide_eq_false_iff_not, Bool.and_eq_true, Bool.or_eq_true, Bool.and_eq_false_iff, Bool.or_eq_false_iff, Bool.not_eq_true', Bool.not_eq_false', beq_iff_eq, bne_iff_ne, ne_eq, Decidable.not_not] at hc3
                refine CW.seq (fun K99 h99 => ?_)
                refine CW.region ?_
                refine r_assign rfl ?_
                refine r_assign rfl ?_
                refine LW.nil ?_
                refine thenE_norm (h99 _ _ ?_); clear h99; try clear K99
                refine CW.ret (thenE_ret (ret2 Try.results29 (by simp only [upd_get, ev, Nat.reduceEqDiff, ↓reduceIte]; rfl) (by simp only [upd_get, ev, Nat.reduceEqDiff, ↓reduceIte]; rfl) ?_))
                first
                  | contradiction
                  | (rw [open_full hg2_20P (by rw [hf]) (by assumption) (by omega)]; exact ⟨_, none, rfl, SH.give (H.addO (α := Ses) 52) (by repeat first | exact List.Sublist.refl _ | exact List.nil_sublist _ | apply List.Sublist.cons_cons | apply List.Sublist.cons) ⟨trivial, trivial⟩⟩)
              · try simp only [decide_eq_true_eq, decide_eq_false_iff_not, Bool.and_eq_true, Bool.or_eq_true, Bool.and_eq_false_iff, Bool.or_eq_false_iff, Bool.not_eq_true', Bool.not_eq_false', beq_iff_eq, bne_iff_ne, ne_eq, Decidable.not_not] at hc3
                refine CW.skip ?_
                refine thenE_norm (h97 _ _ ?_); clear h97; try clear K97
                refine CW.seq (fun K100 h100 => ?_)
                refine CW.region ?_
                refine r_move rfl ?_
                refine r_call rfl Try.call44 (by simp only [List.map_cons, List.map_nil, List.map_toArray, List.toList_toArray, upd_get, ev, Nat.reduceEqDiff, ↓reduceIte] <;> rfl) (CloneS_c _ (by first | assumption | exact SH.rsR H (by (repeat first | exact At.here | apply At.there); done) | exact SH.rsO H (by (repeat first | exact At.here | apply At.there); done) | exact Rs.toH (by first | assumption | exact SH.rsR H (by (repeat first | exact At.here | apply At.there); done) | exact SH.rsO H (by (repeat first | exact At.here | apply At.there); done)) (by omega) | exact Rs.toL (by first | assumption | exact SH.rsR H (by (repeat first | exact At.here | apply At.there); done) | exact SH.rsO H (by (repeat first | exact At.here | apply At.there); done)) (by omega) | exact Rs.toLH (by first | assumption | exact SH.rsR H (by (repeat first | exact At.here | apply At.there); done) | exact SH.rsO H (by (repeat first | exact At.here | apply At.there); done)) (by omega) (by omega) | exact (Rs.nil : Rs Non _ _ _)) (by first | omega | (simp only [List.length_append, List.length_cons, List.length_nil]; omega) | (simp; omega))) ?_
                rintro _ w8_1 ⟨v8_1, g8_1, rfl, K⟩
                refine ⟨_, rfl, ?_⟩
                replace H := SH.call H K
                clear K
                try dsimp only [replC, List.cons_append, List.nil_append, List.append_nil, agg, cellsL, Value.cells, List.toList_toArray, List.set_cons_zero, List.set_cons_succ, spliceL, List.take_succ_cons, List.take_zero, List.drop_succ_cons, List.drop_zero, List.length_cons, List.length_nil, Nat.reduceAdd, Row.cells, Ses.L] at H
                refine r_move rfl ?_
                refine r_move rfl ?_
                refine r_move rfl ?_
                refine r_move rfl ?_
                refine r_buildQ rfl Try.underlying52 Try.zeroValue52 rfl (pl := [(0, 1), (1, 1), (2, 1)]) (by intro w; simp [go_sem]) (qs := [(0, [_]), (1, [_]), (2, [_])]) (cs := [_, _, _]) ⟨rfl, cells_one (by simp only [upd_get, ev, Nat.reduceEqDiff, ↓reduceIte] <;> rfl) (by first | rfl | exact Rs.oneC (by first | assumption | exact SH.rsR H (by (repeat first | exact At.here | apply At.there); done) | exact SH.rsO H (by (repeat first | exact At.here | apply At.there); done) | exact Rs.toH (by first | assumption | exact SH.rsR H (by (repeat first | exact At.here | apply At.there); done) | exact SH.rsO H (by (repeat first | exact At.here | apply At.there); done)) (by omega) | exact Rs.toL (by first | assumption | exact SH.rsR H (by (repeat first | exact At.here | apply At.there); done) | exact SH.rsO H (by (repeat first | exact At.here | apply At.there); done)) (by omega) | exact Rs.toLH (by first | assumption | exact SH.rsR H (by (repeat first | exact At.here | apply At.there); done) | exact SH.rsO H (by (repeat first | exact At.here | apply At.there); done)) (by omega) (by omega) | exact (Rs.nil : Rs Non _ _ _))), rfl, cells_one (by simp only [upd_get, ev, Nat.reduceEqDiff, ↓reduceIte] <;> rfl) (by first | rfl | exact Rs.oneC (by first | assumption | exact SH.rsR H (by (repeat first | exact At.here | apply At.there); done) | exact SH.rsO H (by (repeat first | exact At.here | apply At.there); done) | exact Rs.toH (by first | assumption | exact SH.rsR H (by (repeat first | exact At.here | apply At.there); done) | exact SH.rsO H (by (repeat first | exact At.here | apply At.there); done)) (by omega) | exact Rs.toL (by first | assumption | exact SH.rsR H (by (repeat first | exact At.here | apply At.there); done) | exact SH.rsO H (by (repeat first | exact At.here | apply At.there); done)) (by omega) | exact Rs.toLH (by first | assumption | exact SH.rsR H (by (repeat first | exact At.here | apply At.there); done) | exact SH.rsO H (by (repeat first | exact At.here | apply At.there); done)) (by omega) (by omega) | exact (Rs.nil : Rs Non _ _ _))), rfl, cells_one (by simp only [upd_get, ev, Nat.reduceEqDiff, ↓reduceIte] <;> rfl) (by first | rfl | exact Rs.oneC (by first | assumption | exact SH.rsR H (by (repeat first | exact At.here | apply At.there); done) | exact SH.rsO H (by (repeat first | exact At.here | apply At.there); done) | exact Rs.toH (by first | assumption | exact SH.rsR H (by (repeat first | exact At.here | apply At.there); done) | exact SH.rsO H (by (repeat first | exact At.here | apply At.there); done)) (by omega) | exact Rs.toL (by first | assumption | exact SH.rsR H (by (repeat first | exact At.here | apply At.there); done) | exact SH.rsO H (by (repeat first | exact At.here | apply At.there); done)) (by omega) | exact Rs.toLH (by first | assumption | exact SH.rsR H (by (repeat first | exact At.here | apply At.there); done) | exact SH.rsO H (by (repeat first | exact At.here | apply At.there); done)) (by omega) (by omega) | exact (Rs.nil : Rs Non _ _ _))), trivial⟩ rfl ?_
                refine r_buildSliceA (vs := [_]) rfl Try.underlying48 Try.sizeOf52 Try.zeroValue52 rfl rfl rfl rfl (by simp only [List.map_cons, List.map_nil, List.toList_toArray, numbered, Nat.reduceAdd, upd_get, ev, Nat.reduceEqDiff, ↓reduceIte] <;> rfl) rfl (by intro v hv; simp only [List.mem_cons, List.not_mem_nil, or_false] at hv; rcases hv with rfl <;> rfl) ?_
                intro b8_7 w8_7 hb8_7 hs8_7 hE8_7 hB8_7
                replace H := SH.call H (SH.fromB hE8_7 hb8_7 hs8_7 hB8_7)
                clear hb8_7 hs8_7 hE8_7 hB8_7
                try dsimp only [replC, List.cons_append, List.nil_append, List.append_nil, agg, cellsL, Value.cells, List.toList_toArray, List.set_cons_zero, List.set_cons_succ, spliceL, List.take_succ_cons, List.take_zero, List.drop_succ_cons, List.drop_zero, List.length_cons, List.length_nil, Nat.reduceAdd, Row.cells, Ses.L] at H
                replace H := SH.row (b := b8_7) (xs := ([⟨n, num, now⟩] : List Ses)) (n := 1) (cap := 1) H (by (repeat first | exact At.here | apply At.there); done) (by simp only [flat, List.flatMap_cons, List.flatMap_nil, cellsL, agg, List.append_nil, List.cons_append, List.nil_append, List.toList_toArray, Row.cells, Ses.L] <;> rfl) (by intro x hx; first | rfl | (simp at hx; done) | (simp only [List.mem_cons, List.not_mem_nil, or_false] at hx; rcases hx with rfl <;> first | rfl | exact (by first | rfl | exact Rs.oneC (by first | assumption | exact SH.rsR H (by (repeat first | exact At.here | apply At.there); done) | exact SH.rsO H (by (repeat first | exact At.here | apply At.there); done) | exact Rs.toH (by first | assumption | exact SH.rsR H (by (repeat first | exact At.here | apply At.there); done) | exact SH.rsO H (by (repeat first | exact At.here | apply At.there); done)) (by omega) | exact Rs.toL (by first | assumption | exact SH.rsR H (by (repeat first | exact At.here | apply At.there); done) | exact SH.rsO H (by (repeat first | exact At.here | apply At.there); done)) (by omega) | exact Rs.toLH (by first | assumption | exact SH.rsR H (by (repeat first | exact At.here | apply At.there); done) | exact SH.rsO H (by (repeat first | exact At.here | apply At.there); done)) (by omega) (by omega) | exact (Rs.nil : Rs Non _ _ _)) | (simp only [List.all_cons, List.all_nil, Bool.and_true, Bool.and_eq_true, Row.cells, Ses.L]; (repeat' constructor) <;> first | rfl | exact Rs.oneC (by first | assumption | exact SH.rsR H (by (repeat first | exact At.here | apply At.there); done) | exact SH.rsO H (by (repeat first | exact At.here | apply At.there); done) | exact Rs.toH (by first | assumption | exact SH.rsR H (by (repeat first | exact At.here | apply At.there); done) | exact SH.rsO H (by (repeat first | exact At.here | apply At.there); done)) (by omega) | exact Rs.toL (by first | assumption | exact SH.rsR H (by (repeat first | exact At.here | apply At.there); done) | exact SH.rsO H (by (repeat first | exact At.here | apply At.there); done)) (by omega) | exact Rs.toLH (by first | assumption | exact SH.rsR H (by (repeat first | exact At.here | apply At.there); done) | exact SH.rsO H (by (repeat first | exact At.here | apply At.there); done)) (by omega) (by omega) | exact (Rs.nil : Rs Non _ _ _)))))) (by rfl) rfl (by decide)
                try dsimp only [replC, List.cons_append, List.nil_append, List.append_nil, agg, cellsL, Value.cells, List.toList_toArray, List.set_cons_zero, List.set_cons_succ, spliceL, List.take_succ_cons, List.take_zero, List.drop_succ_cons, List.drop_zero, List.length_cons, List.length_nil, Nat.reduceAdd, Row.cells, Ses.L] at H
                refine r_call rfl Try.call47 (by simp only [List.map_cons, List.map_nil, List.map_toArray, List.toList_toArray, upd_get, ev, Nat.reduceEqDiff, ↓reduceIte] <;> rfl) (InsS_c (y := ⟨n, num, now⟩) (atS l n) _ (SH.ow H (i := 1) rfl) (SH.ow H (i := 2) rfl) (fun b h1 h2 => (SH.val H).apart (i := 1) (j := 2) rfl rfl (by decide) (.inl trivial) b h2 h1) hal (by omega)) ?_
                rintro _ w8_8 ⟨v8_8, g8_8, rfl, K⟩
                refine ⟨_, rfl, ?_⟩
                replace H := SH.updO H (i := 1) rfl K
                clear K
                try dsimp only [replC, List.cons_append, List.nil_append, List.append_nil, agg, cellsL, Value.cells, List.toList_toArray, List.set_cons_zero, List.set_cons_succ, spliceL, List.take_succ_cons, List.take_zero, List.drop_succ_cons, List.drop_zero, List.length_cons, List.length_nil, Nat.reduceAdd, Row.cells, Ses.L] at H
                refine r_assign rfl ?_
                refine r_assign rfl ?_
                refine LW.nil ?_
                refine thenE_norm ?_
                refine cut (K := K100) [8, 9] (fun σ => ?_)
                simp only [setL, keepE, upd_get, ev, Nat.reduceEqDiff, ↓reduceIte]
                refine h100 _ _ ?_; clear h100; try clear K100
                refine CW.ret (ret2 Try.results29 (by simp only [upd_get, ev, Nat.reduceEqDiff, ↓reduceIte]; rfl) (by simp only [upd_get, ev, Nat.reduceEqDiff, ↓reduceIte]; rfl) ?_)
                first
                  | contradiction
                  | (rw [open_ok hg2_20P (by rw [hf]) (by assumption) (by omega)]; exact ⟨_, _, rfl, (SH.give (SH.sel H [1] (by decide) rfl) (List.Sublist.refl _) (by repeat first | exact trivial | refine ⟨trivial, ?_⟩))⟩)
end Go.Proofs.Ytcmnhneigojpoaa
