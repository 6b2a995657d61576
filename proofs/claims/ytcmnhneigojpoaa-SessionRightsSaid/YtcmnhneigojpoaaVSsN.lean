/-
  The walks of layer 6's laws, the third part: what opens nothing.
-/
import Derived.Test.YtcmnhneigojpoaaVSsM
namespace Go.Proofs.Ytcmnhneigojpoaa
set_option linter.unusedSimpArgs false
set_option linter.unusedVariables false
set_option maxRecDepth 20000
open Go.V Go.RowKit Go.ChangeShapes Go.WideShapes

def tkM (l : List Ses) (num n : Int) : Bool := l.any fun s => decide (s.num = num) && decide (s.client ≠ n)
theorem tkM_snoc {l : List Ses} {i : Nat} {s : Ses} (num n : Int) (hs : l[i]? = some s) : tkM (l.take (i + 1)) num n = (tkM (l.take i) num n || (decide (s.num = num) && decide (s.client ≠ n))) := by
  rw [tkM, V.take_snoc hs, List.any_append]
  simp [tkM]
theorem open_code1 {l : List Ses} {n num now : Int} (h : okS l) : (openM l n num now).2 = 1 ↔ badO n num now ∨ tkM l num n = true := by
  by_cases hb : badO n num now
  · rw [open_bad hb]; exact ⟨fun _ => .inl hb, fun _ => rfl⟩
  · cases ht : tkM l num n
    · have hall : ∀ x ∈ l, x.num = num → x.client = n := by
        intro x hx hq
        rw [tkM, List.any_eq_false] at ht
        have := ht x hx
        simpa [hq] using this
      have hgd := badO_not hb
      have : (openM l n num now).2 ≠ 1 := by
        cases hf : (findS l n).2
        · obtain ⟨hf2, hno⟩ := find_none hf
          have hh : hasN l num = false := has_not.2 (fun x hx hq => hno x hx (hall x hx hq))
          by_cases h5 : 5 ≤ l.length
          · rw [open_full hgd hf hh h5]; simp
          · rw [open_ok hgd hf hh h5]; simp
        · rw [open_twice2 h hgd hf hall]; simp
      simp [this, hb]
    · rw [tkM, List.any_eq_true] at ht
      obtain ⟨x, hx, hq⟩ := ht
      simp only [Bool.and_eq_true, decide_eq_true_eq] at hq
      rw [open_taken now h hx hq.1 hq.2]
      simp
theorem open_code0 {l : List Ses} (n num now : Int) : (openM l n num now).2 = 0 ↔ (openM l n num now).1.length = l.length + 1 := by
  have hal := atS_le l n
  unfold openM
  split
  · simp
  · split
    · simp
    · split
      · simp
      · simp only [true_iff, List.length_append, List.length_take, List.length_drop, List.length_singleton]
        omega
theorem open_len {l : List Ses} (h : l.length ≤ 5) (n num now : Int) : (openM l n num now).1.length ≤ 6 := by
  have hal := atS_le l n
  unfold openM
  split
  · simp
  · split
    · simp
    · split
      · simp
      · simp only [List.length_append, List.length_take, List.length_drop, List.length_singleton]
        omega
theorem refuses1 {c n num now : Int} {t : Bool} (h : c = 1 ↔ badO n num now ∨ t = true) : (decide (c = 1) == (decide (n < 0) || decide (7 < n) || decide (num < 1) || decide (2305843009213693952 < num) || decide (now < 0) || decide (2305843009213693952 < now) || t)) = true := by
  rw [beq_iff_eq, Bool.eq_iff_iff, decide_eq_true_iff, h]
  unfold badO isCl
  cases t <;> simp <;> omega
theorem refuses2 {r : List Ses × Int} {l : List Ses} {q : Prop} [Decidable q] {now : Int} (h : r = if now < 0 ∨ 2305843009213693952 < now then ([], 1) else if q then (l, 0) else ([], 6)) : (decide (r.2 = 1) == (decide (now < 0) || decide (2305843009213693952 < now))) = true := by
  rw [beq_iff_eq, Bool.eq_iff_iff, decide_eq_true_iff, h]
  by_cases hb : now < 0 ∨ 2305843009213693952 < now
  · rw [if_pos hb]; simpa using hb
  · rw [if_neg hb]
    split <;> simp <;> omega
theorem SessionRefuses_c {F : Nat → Prop} {v : Value} {ns : List UInt8} (client num now : Int) (w : World) (hv : Rs F w v ns) :
    Calls Try.prog 8 #[v, .int .i64 client, .int .i64 num, .int .i64 now] w fun e w' => e = .returned (.bool true) ∧ Ext0 w w' := by
  have H := (SH.start w).arg hv
  have h63 := hv.len63
  refine calls_of_CW Try.func8 rfl Try.ntmps8 (Nat.le_of_ble_eq_true rfl) ?_
  simp only [argE, argFrom, Nat.reduceAdd]
  refine CW.seq (fun K1 h1 => ?_)
  refine CW.region ?_
  refine r_assign rfl ?_
  refine LW.nil ?_
  refine thenE_norm (h1 _ _ ?_); clear h1; try clear K1
  refine CW.seq (fun K2 h2 => ?_)
  refine CW.region ?_
  refine r_move rfl ?_
  refine r_call rfl Try.call24 (by simp only [List.map_cons, List.map_nil, List.map_toArray, List.toList_toArray, upd_get, ev, Nat.reduceEqDiff, ↓reduceIte] <;> rfl) (Sessions_c _ (by first | assumption | exact SH.rsR H (by (repeat first | exact At.here | apply At.there); done) | exact SH.rsO H (by (repeat first | exact At.here | apply At.there); done) | exact Rs.toH (by first | assumption | exact SH.rsR H (by (repeat first | exact At.here | apply At.there); done) | exact SH.rsO H (by (repeat first | exact At.here | apply At.there); done)) (by omega) | exact Rs.toL (by first | assumption | exact SH.rsR H (by (repeat first | exact At.here | apply At.there); done) | exact SH.rsO H (by (repeat first | exact At.here | apply At.there); done)) (by omega) | exact Rs.toLH (by first | assumption | exact SH.rsR H (by (repeat first | exact At.here | apply At.there); done) | exact SH.rsO H (by (repeat first | exact At.here | apply At.there); done)) (by omega) (by omega) | exact (Rs.nil : Rs Non _ _ _))) ?_
  rintro _ w1_1 ⟨v1_1, g1_1, l1_1, rfl, hok1_1, hl51_1, hsm1_1, K⟩
  refine ⟨_, rfl, ?_⟩
  replace H := SH.call H K
  clear K
  try dsimp only [replC, List.cons_append, List.nil_append, List.append_nil, agg, cellsL, Value.cells, List.toList_toArray, List.set_cons_zero, List.set_cons_succ, spliceL, List.take_succ_cons, List.take_zero, List.drop_succ_cons, List.drop_zero, List.length_cons, List.length_nil, Nat.reduceAdd, Row.cells, Ses.L] at H
  have hup := hok1_1.up
  refine r_assign rfl ?_
  refine LW.nil ?_
  refine thenE_norm (h2 _ _ ?_); clear h2; try clear K2
  refine CW.seq (fun K3 h3 => ?_)
  refine CW.region ?_
  refine r_move rfl ?_
  refine r_move rfl ?_
  refine r_move rfl ?_
  refine r_move rfl ?_
  refine r_call rfl Try.call29 (by simp only [List.map_cons, List.map_nil, List.map_toArray, List.toList_toArray, upd_get, ev, Nat.reduceEqDiff, ↓reduceIte] <;> rfl) (Open_c _ _ _ _ (by first | assumption | exact SH.rsR H (by (repeat first | exact At.here | apply At.there); done) | exact SH.rsO H (by (repeat first | exact At.here | apply At.there); done) | exact Rs.toH (by first | assumption | exact SH.rsR H (by (repeat first | exact At.here | apply At.there); done) | exact SH.rsO H (by (repeat first | exact At.here | apply At.there); done)) (by omega) | exact Rs.toL (by first | assumption | exact SH.rsR H (by (repeat first | exact At.here | apply At.there); done) | exact SH.rsO H (by (repeat first | exact At.here | apply At.there); done)) (by omega) | exact Rs.toLH (by first | assumption | exact SH.rsR H (by (repeat first | exact At.here | apply At.there); done) | exact SH.rsO H (by (repeat first | exact At.here | apply At.there); done)) (by omega) (by omega) | exact (Rs.nil : Rs Non _ _ _)) (by first | omega | (simp only [List.length_append, List.length_cons, List.length_nil]; omega) | (simp; omega)) hup) ?_
  rintro _ w2_4 ⟨v2_4, g2_4, rfl, K⟩
  refine ⟨_, rfl, ?_⟩
  replace H := SH.call H K
  clear K
  try dsimp only [replC, List.cons_append, List.nil_append, List.append_nil, agg, cellsL, Value.cells, List.toList_toArray, List.set_cons_zero, List.set_cons_succ, spliceL, List.take_succ_cons, List.take_zero, List.drop_succ_cons, List.drop_zero, List.length_cons, List.length_nil, Nat.reduceAdd, Row.cells, Ses.L] at H
  refine r_move rfl ?_
  refine r_extract rfl (by simp only [upd_get, ev, Nat.reduceEqDiff, ↓reduceIte] <;> rfl) (by simp only [List.getElem?_toArray, List.getElem?_cons_zero, List.getElem?_cons_succ] <;> rfl) ?_
  refine r_extract rfl (by simp only [upd_get, ev, Nat.reduceEqDiff, ↓reduceIte] <;> rfl) (by simp only [List.getElem?_toArray, List.getElem?_cons_zero, List.getElem?_cons_succ] <;> rfl) ?_
  refine r_assign rfl ?_
  refine r_assign rfl ?_
  refine LW.nil ?_
  refine thenE_norm ?_
  refine cut (K := K3) [1, 2, 3, 9, 10, 11] (fun σ => ?_)
  simp only [setL, keepE, upd_get, ev, Nat.reduceEqDiff, ↓reduceIte]
  refine h3 _ _ ?_; clear h3; try clear K3
  refine CW.seq (fun K4 h4 => ?_)
  refine CW.region ?_
  refine r_move rfl ?_
  refine r_move rfl ?_
  refine r_move rfl ?_
  refine r_call rfl Try.call27 (by simp only [List.map_cons, List.map_nil, List.map_toArray, List.toList_toArray, upd_get, ev, Nat.reduceEqDiff, ↓reduceIte] <;> rfl) (Renew_c _ _ _ (by first | assumption | exact SH.rsR H (by (repeat first | exact At.here | apply At.there); done) | exact SH.rsO H (by (repeat first | exact At.here | apply At.there); done) | exact Rs.toH (by first | assumption | exact SH.rsR H (by (repeat first | exact At.here | apply At.there); done) | exact SH.rsO H (by (repeat first | exact At.here | apply At.there); done)) (by omega) | exact Rs.toL (by first | assumption | exact SH.rsR H (by (repeat first | exact At.here | apply At.there); done) | exact SH.rsO H (by (repeat first | exact At.here | apply At.there); done)) (by omega) | exact Rs.toLH (by first | assumption | exact SH.rsR H (by (repeat first | exact At.here | apply At.there); done) | exact SH.rsO H (by (repeat first | exact At.here | apply At.there); done)) (by omega) (by omega) | exact (Rs.nil : Rs Non _ _ _)) (by first | omega | (simp only [List.length_append, List.length_cons, List.length_nil]; omega) | (simp; omega)) hup) ?_
  rintro _ w3_3 ⟨v3_3, g3_3, rfl, K⟩
  refine ⟨_, rfl, ?_⟩
  replace H := SH.call H K
  clear K
  try dsimp only [replC, List.cons_append, List.nil_append, List.append_nil, agg, cellsL, Value.cells, List.toList_toArray, List.set_cons_zero, List.set_cons_succ, spliceL, List.take_succ_cons, List.take_zero, List.drop_succ_cons, List.drop_zero, List.length_cons, List.length_nil, Nat.reduceAdd, Row.cells, Ses.L] at H
  refine r_move rfl ?_
  refine r_extract rfl (by simp only [upd_get, ev, Nat.reduceEqDiff, ↓reduceIte] <;> rfl) (by simp only [List.getElem?_toArray, List.getElem?_cons_zero, List.getElem?_cons_succ] <;> rfl) ?_
  refine r_extract rfl (by simp only [upd_get, ev, Nat.reduceEqDiff, ↓reduceIte] <;> rfl) (by simp only [List.getElem?_toArray, List.getElem?_cons_zero, List.getElem?_cons_succ] <;> rfl) ?_
  refine r_assign rfl ?_
  refine r_assign rfl ?_
  refine LW.nil ?_
  refine thenE_norm ?_
  refine cut (K := K4) [1, 2, 3, 9, 10, 11, 13] (fun σ => ?_)
  simp only [setL, keepE, upd_get, ev, Nat.reduceEqDiff, ↓reduceIte]
  refine h4 _ _ ?_; clear h4; try clear K4
  refine CW.seq (fun K5 h5 => ?_)
  refine CW.region ?_
  refine r_assign rfl ?_
  refine LW.nil ?_
  refine thenE_norm (h5 _ _ ?_); clear h5; try clear K5
  refine CW.seq (fun K6 h6 => ?_)
  refine CW.seq (fun K7 h7 => ?_)
  refine CW.region ?_
  refine r_assign rfl ?_
  refine LW.nil ?_
  refine thenE_norm (h7 _ _ ?_); clear h7; try clear K7
  refine CW.block ?_
  refine CW.loopR [1, 2, 3, 9, 10, 11, 13] [14, 15] (fun m vs w' => ∃ (i : Nat) (p : Bool), vs = [.bool p, .int .i64 i] ∧ p = tkM (l1_1.take i) num client ∧ i ≤ l1_1.length ∧ m = l1_1.length - i ∧ SH Non Any w w' [.O 52 v1_1 l1_1 g1_1, .O 52 v2_4 (openM l1_1 client num now).1 g2_4]) (l1_1.length) ?_ ?_
  · exact ⟨0, false, rfl, by simp [tkM], by omega, by omega, (SH.sel H [1, 2] (by decide) (by rfl))⟩
  try clear H
  rintro n1 vs1 wL1 σ ⟨i, _, rfl, rfl, hi, rfl, H⟩
  simp only [setL, keepE, upd_get, ev, Nat.reduceEqDiff, ↓reduceIte]
  refine CW.seq (fun K8 h8 => ?_)
  refine CW.seq (fun K9 h9 => ?_)
  refine CW.region ?_
  refine r_move rfl ?_
  refine r_move rfl ?_
  first
    | refine r_lenV rfl Try.underlying48 (by simp only [upd_get, ev, Nat.reduceEqDiff, ↓reduceIte] <;> rfl) (by first | assumption | exact SH.rsR H (by (repeat first | exact At.here | apply At.there); done) | exact SH.rsO H (by (repeat first | exact At.here | apply At.there); done) | exact Rs.toH (by first | assumption | exact SH.rsR H (by (repeat first | exact At.here | apply At.there); done) | exact SH.rsO H (by (repeat first | exact At.here | apply At.there); done)) (by omega) | exact Rs.toL (by first | assumption | exact SH.rsR H (by (repeat first | exact At.here | apply At.there); done) | exact SH.rsO H (by (repeat first | exact At.here | apply At.there); done)) (by omega) | exact Rs.toLH (by first | assumption | exact SH.rsR H (by (repeat first | exact At.here | apply At.there); done) | exact SH.rsO H (by (repeat first | exact At.here | apply At.there); done)) (by omega) (by omega) | exact (Rs.nil : Rs Non _ _ _)) ?_
    | refine r_len rfl Try.underlying48 rfl ?_
  refine r_lss rfl rfl rfl ?_
  refine LW.nil ?_
  refine thenE_norm (h9 _ _ ?_); clear h9; try clear K9
  refine CW.cond rfl (fun hc1 => ?_) (fun hc1 => ?_)
  · try simp only [decide_eq_true_eq, decide_eq_false_iff_not, Bool.and_eq_true, Bool.or_eq_true, Bool.and_eq_false_iff, Bool.or_eq_false_iff, Bool.not_eq_true', Bool.not_eq_false', beq_iff_eq, bne_iff_ne, ne_eq, Decidable.not_not] at hc1
    refine CW.skip ?_
    refine thenE_norm (h8 _ _ ?_); clear h8; try clear K8
    refine CW.seq (fun K10 h10 => ?_)
    refine CW.block ?_
    obtain ⟨s, hs⟩ := get_of_lt (show i < l1_1.length by omega)
    have hts := tkM_snoc num client hs
    refine CW.region ?_
    refine r_move rfl ?_
    refine r_move rfl ?_
    refine' LW.grpOr (n := 17) (ts := [1, 2, 3, 9, 10, 11, 13, 15]) (d := 58) (tj := 41) rfl (fun hg8_2 => ?_) (fun hg8_2 => ?_) (fun σ => ?_)
    rotate_left
    · simp only [List.take_succ_cons, List.take_zero]
      have hg8_2P := hg8_2
      try simp only [decide_eq_true_eq, decide_eq_false_iff_not, Bool.and_eq_true, Bool.or_eq_true, Bool.and_eq_false_iff, Bool.or_eq_false_iff, Bool.not_eq_true', Bool.not_eq_false', beq_iff_eq, bne_iff_ne] at hg8_2P
      refine LW.want rfl rfl hg8_2 ?_
      refine r_move rfl ?_
      refine LW.want rfl rfl hg8_2 ?_
      refine r_move rfl ?_
      refine LW.want rfl rfl hg8_2 ?_
      refine r_indexAddrV rfl Try.underlying48 (by simp only [upd_get, ev, Nat.reduceEqDiff, ↓reduceIte] <;> rfl) rfl (by first | assumption | exact SH.rsR H (by (repeat first | exact At.here | apply At.there); done) | exact SH.rsO H (by (repeat first | exact At.here | apply At.there); done) | exact Rs.toH (by first | assumption | exact SH.rsR H (by (repeat first | exact At.here | apply At.there); done) | exact SH.rsO H (by (repeat first | exact At.here | apply At.there); done)) (by omega) | exact Rs.toL (by first | assumption | exact SH.rsR H (by (repeat first | exact At.here | apply At.there); done) | exact SH.rsO H (by (repeat first | exact At.here | apply At.there); done)) (by omega) | exact Rs.toLH (by first | assumption | exact SH.rsR H (by (repeat first | exact At.here | apply At.there); done) | exact SH.rsO H (by (repeat first | exact At.here | apply At.there); done)) (by omega) (by omega) | exact (Rs.nil : Rs Non _ _ _)) (by exact Try.sizeOf52) (by omega) (by omega) ?_
      refine LW.want rfl rfl hg8_2 ?_
      refine r_fieldAddrO rfl Try.underlying52 rfl Try.sizeOf3 (by decide) (show _ + 1 = _ from rfl) rfl ?_
      refine LW.want rfl rfl hg8_2 ?_
      refine r_load rfl Try.isAgg3 rfl (by first | exact SH.cellB H (by (repeat first | exact At.here | apply At.there); done) (by rfl) | exact SH.cellI H (by (repeat first | exact At.here | apply At.there); done) (by rfl) | exact Rs.cell (by first | assumption | exact SH.rsR H (by (repeat first | exact At.here | apply At.there); done) | exact SH.rsO H (by (repeat first | exact At.here | apply At.there); done) | exact Rs.toH (by first | assumption | exact SH.rsR H (by (repeat first | exact At.here | apply At.there); done) | exact SH.rsO H (by (repeat first | exact At.here | apply At.there); done)) (by omega) | exact Rs.toL (by first | assumption | exact SH.rsR H (by (repeat first | exact At.here | apply At.there); done) | exact SH.rsO H (by (repeat first | exact At.here | apply At.there); done)) (by omega) | exact Rs.toLH (by first | assumption | exact SH.rsR H (by (repeat first | exact At.here | apply At.there); done) | exact SH.rsO H (by (repeat first | exact At.here | apply At.there); done)) (by omega) (by omega) | exact (Rs.nil : Rs Non _ _ _)) (by assumption) (by rfl) | exact Rs.cell0 (by first | assumption | exact SH.rsR H (by (repeat first | exact At.here | apply At.there); done) | exact SH.rsO H (by (repeat first | exact At.here | apply At.there); done) | exact Rs.toH (by first | assumption | exact SH.rsR H (by (repeat first | exact At.here | apply At.there); done) | exact SH.rsO H (by (repeat first | exact At.here | apply At.there); done)) (by omega) | exact Rs.toL (by first | assumption | exact SH.rsR H (by (repeat first | exact At.here | apply At.there); done) | exact SH.rsO H (by (repeat first | exact At.here | apply At.there); done)) (by omega) | exact Rs.toLH (by first | assumption | exact SH.rsR H (by (repeat first | exact At.here | apply At.there); done) | exact SH.rsO H (by (repeat first | exact At.here | apply At.there); done)) (by omega) (by omega) | exact (Rs.nil : Rs Non _ _ _)) (by assumption) (by rfl) | assumption) ?_
      refine LW.want rfl rfl hg8_2 ?_
      refine r_move rfl ?_
      refine LW.want rfl rfl hg8_2 ?_
      refine r_eql rfl rfl rfl ?_
      refine LW.want rfl rfl hg8_2 ?_
      refine r_move rfl ?_
      refine' LW.grpAnd (n := 8) (ts := [1, 2, 3, 9, 10, 11, 13, 15, 41]) (d := 57) (tj := 49) rfl (fun hg8_10 => ?_) (fun hg8_10 => ?_) (fun σ => ?_)
      rotate_left
      · simp only [List.take_succ_cons, List.take_zero]
        have hg8_10P := hg8_10
        try simp only [decide_eq_true_eq, decide_eq_false_iff_not, Bool.and_eq_true, Bool.or_eq_true, Bool.and_eq_false_iff, Bool.or_eq_false_iff, Bool.not_eq_true', Bool.not_eq_false', beq_iff_eq, bne_iff_ne] at hg8_10P
        refine LW.want rfl rfl hg8_10 ?_
        refine r_move rfl ?_
        refine LW.want rfl rfl hg8_10 ?_
        refine r_move rfl ?_
        refine LW.want rfl rfl hg8_10 ?_
        refine r_indexAddrV rfl Try.underlying48 (by simp only [upd_get, ev, Nat.reduceEqDiff, ↓reduceIte] <;> rfl) rfl (by first | assumption | exact SH.rsR H (by (repeat first | exact At.here | apply At.there); done) | exact SH.rsO H (by (repeat first | exact At.here | apply At.there); done) | exact Rs.toH (by first | assumption | exact SH.rsR H (by (repeat first | exact At.here | apply At.there); done) | exact SH.rsO H (by (repeat first | exact At.here | apply At.there); done)) (by omega) | exact Rs.toL (by first | assumption | exact SH.rsR H (by (repeat first | exact At.here | apply At.there); done) | exact SH.rsO H (by (repeat first | exact At.here | apply At.there); done)) (by omega) | exact Rs.toLH (by first | assumption | exact SH.rsR H (by (repeat first | exact At.here | apply At.there); done) | exact SH.rsO H (by (repeat first | exact At.here | apply At.there); done)) (by omega) (by omega) | exact (Rs.nil : Rs Non _ _ _)) (by exact Try.sizeOf52) (by omega) (by omega) ?_
        refine LW.want rfl rfl hg8_10 ?_
        refine r_fieldAddrO rfl Try.underlying52 rfl Try.sizeOf3 (by decide) (show _ + 0 = _ from rfl) rfl ?_
        refine LW.want rfl rfl hg8_10 ?_
        refine r_load rfl Try.isAgg3 rfl (by first | exact SH.cellB H (by (repeat first | exact At.here | apply At.there); done) (by rfl) | exact SH.cellI H (by (repeat first | exact At.here | apply At.there); done) (by rfl) | exact Rs.cell (by first | assumption | exact SH.rsR H (by (repeat first | exact At.here | apply At.there); done) | exact SH.rsO H (by (repeat first | exact At.here | apply At.there); done) | exact Rs.toH (by first | assumption | exact SH.rsR H (by (repeat first | exact At.here | apply At.there); done) | exact SH.rsO H (by (repeat first | exact At.here | apply At.there); done)) (by omega) | exact Rs.toL (by first | assumption | exact SH.rsR H (by (repeat first | exact At.here | apply At.there); done) | exact SH.rsO H (by (repeat first | exact At.here | apply At.there); done)) (by omega) | exact Rs.toLH (by first | assumption | exact SH.rsR H (by (repeat first | exact At.here | apply At.there); done) | exact SH.rsO H (by (repeat first | exact At.here | apply At.there); done)) (by omega) (by omega) | exact (Rs.nil : Rs Non _ _ _)) (by assumption) (by rfl) | exact Rs.cell0 (by first | assumption | exact SH.rsR H (by (repeat first | exact At.here | apply At.there); done) | exact SH.rsO H (by (repeat first | exact At.here | apply At.there); done) | exact Rs.toH (by first | assumption | exact SH.rsR H (by (repeat first | exact At.here | apply At.there); done) | exact SH.rsO H (by (repeat first | exact At.here | apply At.there); done)) (by omega) | exact Rs.toL (by first | assumption | exact SH.rsR H (by (repeat first | exact At.here | apply At.there); done) | exact SH.rsO H (by (repeat first | exact At.here | apply At.there); done)) (by omega) | exact Rs.toLH (by first | assumption | exact SH.rsR H (by (repeat first | exact At.here | apply At.there); done) | exact SH.rsO H (by (repeat first | exact At.here | apply At.there); done)) (by omega) (by omega) | exact (Rs.nil : Rs Non _ _ _)) (by assumption) (by rfl) | assumption) ?_
        refine LW.want rfl rfl hg8_10 ?_
        refine r_move rfl ?_
        refine LW.want rfl rfl hg8_10 ?_
        refine r_neq rfl rfl rfl ?_
        refine LW.want rfl rfl hg8_2 ?_
        refine r_pickT rfl rfl hg8_10 ?_
        refine LW.nil (thenE_norm ⟨rfl, rfl, rfl⟩)
      · simp only [List.take_succ_cons, List.take_zero]
        refine LW.skip rfl (fun _ e => by cases e; decide) rfl hg8_10 ?_
        refine LW.skip rfl (fun _ e => by cases e; decide) rfl hg8_10 ?_
        refine LW.skip rfl (fun _ e => by cases e; decide) rfl hg8_10 ?_
        refine LW.skip rfl (fun _ e => by cases e; decide) rfl hg8_10 ?_
        refine LW.skip rfl (fun _ e => by cases e; decide) rfl hg8_10 ?_
        refine LW.skip rfl (fun _ e => by cases e; decide) rfl hg8_10 ?_
        refine LW.skip rfl (fun _ e => by cases e; decide) rfl hg8_10 ?_
        refine LW.want rfl rfl hg8_2 ?_
        refine r_pickF rfl rfl hg8_10 ?_
        refine LW.nil (thenE_norm ⟨rfl, rfl, rfl⟩)
      simp only [setL, keepE, upd_get, ev, Nat.reduceEqDiff, ↓reduceIte]; simp only [List.drop_succ_cons, List.drop_zero]
      refine r_pickF rfl rfl hg8_2 ?_
      refine LW.nil (thenE_norm ⟨rfl, rfl, rfl⟩)
    · simp only [List.take_succ_cons, List.take_zero]
      refine LW.skip rfl (fun _ e => by cases e; decide) rfl hg8_2 ?_
      refine LW.skip rfl (fun _ e => by cases e; decide) rfl hg8_2 ?_
      refine LW.skip rfl (fun _ e => by cases e; decide) rfl hg8_2 ?_
      refine LW.skip rfl (fun _ e => by cases e; decide) rfl hg8_2 ?_
      refine LW.skip rfl (fun _ e => by cases e; decide) rfl hg8_2 ?_
      refine LW.skip rfl (fun _ e => by cases e; decide) rfl hg8_2 ?_
      refine LW.skip rfl (fun _ e => by cases e; decide) rfl hg8_2 ?_
      refine LW.skip rfl (fun _ e => by cases e; decide) rfl hg8_2 ?_
      refine LW.skipU rfl (fun _ e => by cases e; decide) rfl ?_
      refine LW.skipU rfl (fun _ e => by cases e; decide) rfl ?_
      refine LW.skipU rfl (fun _ e => by cases e; decide) rfl ?_
      refine LW.skipU rfl (fun _ e => by cases e; decide) rfl ?_
      refine LW.skipU rfl (fun _ e => by cases e; decide) rfl ?_
      refine LW.skipU rfl (fun _ e => by cases e; decide) rfl ?_
      refine LW.skipU rfl (fun _ e => by cases e; decide) rfl ?_
      refine LW.skip rfl (fun _ e => by cases e; decide) rfl hg8_2 ?_
      refine r_pickT rfl rfl hg8_2 ?_
      refine LW.nil (thenE_norm ⟨rfl, rfl, rfl⟩)
    simp only [setL, keepE, upd_get, ev, Nat.reduceEqDiff, ↓reduceIte]; simp only [List.drop_succ_cons, List.drop_zero]
    refine r_assign rfl ?_
    refine LW.nil ?_
    refine blockE_norm ?_
    refine thenE_norm (h10 _ _ ?_); clear h10; try clear K10
    refine CW.region ?_
    refine r_move rfl ?_
    refine r_add rfl rfl rfl (wr_i64 (by omega) (by omega)) ?_
    refine r_assign rfl ?_
    refine LW.nil ?_
    refine thenE_norm ⟨rfl, ?_⟩
    exact ⟨_, by omega, i + 1, _, rfl, by rw [hts], by omega, rfl, (SH.sel H [0, 1] (by decide) (by rfl))⟩
  · try simp only [decide_eq_true_eq, decide_eq_false_iff_not, Bool.and_eq_true, Bool.or_eq_true, Bool.and_eq_false_iff, Bool.or_eq_false_iff, Bool.not_eq_true', Bool.not_eq_false', beq_iff_eq, bne_iff_ne, ne_eq, Decidable.not_not] at hc1
    refine CW.exit (thenE_exit (thenE_exit (blockE_hit ?_)))
    refine thenE_norm (h6 _ _ ?_); clear h6; try clear K6
    refine CW.seq (fun K11 h11 => ?_)
    obtain rfl : i = l1_1.length := by omega
    rw [List.take_length]
    have hc0 := open_code0 (l := l1_1) client num now
    have hc1b := open_code1 (n := client) (num := num) (now := now) hok1_1
    have hrn := renewM_eq (n := client) (now := now) hup
    have hol : (openM l1_1 client num now).1.length ≤ 6 := open_len hl51_1 client num now
    refine CW.region ?_
    refine r_move rfl ?_
    refine r_lss rfl rfl rfl ?_
    refine r_move rfl ?_
    refine' LW.grpOr (n := 3) (ts := [2, 3, 9, 10, 11, 13, 14, 65, 69, 73, 77, 81]) (d := 64) (tj := 61) rfl (fun hg9_3 => ?_) (fun hg9_3 => ?_) (fun σ => ?_)
    rotate_left
    · simp only [List.take_succ_cons, List.take_zero]
      have hg9_3P := hg9_3
      try simp only [decide_eq_true_eq, decide_eq_false_iff_not, Bool.and_eq_true, Bool.or_eq_true, Bool.and_eq_false_iff, Bool.or_eq_false_iff, Bool.not_eq_true', Bool.not_eq_false', beq_iff_eq, bne_iff_ne] at hg9_3P
      refine LW.want rfl rfl hg9_3 ?_
      refine r_move rfl ?_
      refine LW.want rfl rfl hg9_3 ?_
      refine r_gtr rfl rfl rfl ?_
      refine r_pickF rfl rfl hg9_3 ?_
      refine LW.nil (thenE_norm ⟨rfl, rfl, rfl⟩)
    · simp only [List.take_succ_cons, List.take_zero]
      refine LW.skip rfl (fun _ e => by cases e; decide) rfl hg9_3 ?_
      refine LW.skip rfl (fun _ e => by cases e; decide) rfl hg9_3 ?_
      refine r_pickT rfl rfl hg9_3 ?_
      refine LW.nil (thenE_norm ⟨rfl, rfl, rfl⟩)
    simp only [setL, keepE, upd_get, ev, Nat.reduceEqDiff, ↓reduceIte]; simp only [List.drop_succ_cons, List.drop_zero]
    refine r_move rfl ?_
    refine' LW.grpOr (n := 3) (ts := [2, 3, 9, 10, 11, 13, 14, 69, 73, 77, 81]) (d := 68) (tj := 65) rfl (fun hg9_7 => ?_) (fun hg9_7 => ?_) (fun σ => ?_)
    rotate_left
    · simp only [List.take_succ_cons, List.take_zero]
      have hg9_7P := hg9_7
      try simp only [decide_eq_true_eq, decide_eq_false_iff_not, Bool.and_eq_true, Bool.or_eq_true, Bool.and_eq_false_iff, Bool.or_eq_false_iff, Bool.not_eq_true', Bool.not_eq_false', beq_iff_eq, bne_iff_ne] at hg9_7P
      refine LW.want rfl rfl hg9_7 ?_
      refine r_move rfl ?_
      refine LW.want rfl rfl hg9_7 ?_
      refine r_lss rfl rfl rfl ?_
      refine r_pickF rfl rfl hg9_7 ?_
      refine LW.nil (thenE_norm ⟨rfl, rfl, rfl⟩)
    · simp only [List.take_succ_cons, List.take_zero]
      refine LW.skip rfl (fun _ e => by cases e; decide) rfl hg9_7 ?_
      refine LW.skip rfl (fun _ e => by cases e; decide) rfl hg9_7 ?_
      refine r_pickT rfl rfl hg9_7 ?_
      refine LW.nil (thenE_norm ⟨rfl, rfl, rfl⟩)
    simp only [setL, keepE, upd_get, ev, Nat.reduceEqDiff, ↓reduceIte]; simp only [List.drop_succ_cons, List.drop_zero]
    refine r_move rfl ?_
    refine' LW.grpOr (n := 3) (ts := [3, 9, 10, 11, 13, 14, 73, 77, 81]) (d := 72) (tj := 69) rfl (fun hg9_11 => ?_) (fun hg9_11 => ?_) (fun σ => ?_)
    rotate_left
    · simp only [List.take_succ_cons, List.take_zero]
      have hg9_11P := hg9_11
      try simp only [decide_eq_true_eq, decide_eq_false_iff_not, Bool.and_eq_true, Bool.or_eq_true, Bool.and_eq_false_iff, Bool.or_eq_false_iff, Bool.not_eq_true', Bool.not_eq_false', beq_iff_eq, bne_iff_ne] at hg9_11P
      refine LW.want rfl rfl hg9_11 ?_
      refine r_move rfl ?_
      refine LW.want rfl rfl hg9_11 ?_
      refine r_gtr rfl rfl rfl ?_
      refine r_pickF rfl rfl hg9_11 ?_
      refine LW.nil (thenE_norm ⟨rfl, rfl, rfl⟩)
    · simp only [List.take_succ_cons, List.take_zero]
      refine LW.skip rfl (fun _ e => by cases e; decide) rfl hg9_11 ?_
      refine LW.skip rfl (fun _ e => by cases e; decide) rfl hg9_11 ?_
      refine r_pickT rfl rfl hg9_11 ?_
      refine LW.nil (thenE_norm ⟨rfl, rfl, rfl⟩)
    simp only [setL, keepE, upd_get, ev, Nat.reduceEqDiff, ↓reduceIte]; simp only [List.drop_succ_cons, List.drop_zero]
    refine r_move rfl ?_
    refine' LW.grpOr (n := 3) (ts := [3, 9, 10, 11, 13, 14, 77, 81]) (d := 76) (tj := 73) rfl (fun hg9_15 => ?_) (fun hg9_15 => ?_) (fun σ => ?_)
    rotate_left
    · simp only [List.take_succ_cons, List.take_zero]
      have hg9_15P := hg9_15
      try simp only [decide_eq_true_eq, decide_eq_false_iff_not, Bool.and_eq_true, Bool.or_eq_true, Bool.and_eq_false_iff, Bool.or_eq_false_iff, Bool.not_eq_true', Bool.not_eq_false', beq_iff_eq, bne_iff_ne] at hg9_15P
      refine LW.want rfl rfl hg9_15 ?_
      refine r_move rfl ?_
      refine LW.want rfl rfl hg9_15 ?_
      refine r_lss rfl rfl rfl ?_
      refine r_pickF rfl rfl hg9_15 ?_
      refine LW.nil (thenE_norm ⟨rfl, rfl, rfl⟩)
    · simp only [List.take_succ_cons, List.take_zero]
      refine LW.skip rfl (fun _ e => by cases e; decide) rfl hg9_15 ?_
      refine LW.skip rfl (fun _ e => by cases e; decide) rfl hg9_15 ?_
      refine r_pickT rfl rfl hg9_15 ?_
      refine LW.nil (thenE_norm ⟨rfl, rfl, rfl⟩)
    simp only [setL, keepE, upd_get, ev, Nat.reduceEqDiff, ↓reduceIte]; simp only [List.drop_succ_cons, List.drop_zero]
    refine r_move rfl ?_
    refine' LW.grpOr (n := 3) (ts := [3, 9, 10, 11, 13, 14, 81]) (d := 80) (tj := 77) rfl (fun hg9_19 => ?_) (fun hg9_19 => ?_) (fun σ => ?_)
    rotate_left
    · simp only [List.take_succ_cons, List.take_zero]
      have hg9_19P := hg9_19
      try simp only [decide_eq_true_eq, decide_eq_false_iff_not, Bool.and_eq_true, Bool.or_eq_true, Bool.and_eq_false_iff, Bool.or_eq_false_iff, Bool.not_eq_true', Bool.not_eq_false', beq_iff_eq, bne_iff_ne] at hg9_19P
      refine LW.want rfl rfl hg9_19 ?_
      refine r_move rfl ?_
      refine LW.want rfl rfl hg9_19 ?_
      refine r_gtr rfl rfl rfl ?_
      refine r_pickF rfl rfl hg9_19 ?_
      refine LW.nil (thenE_norm ⟨rfl, rfl, rfl⟩)
    · simp only [List.take_succ_cons, List.take_zero]
      refine LW.skip rfl (fun _ e => by cases e; decide) rfl hg9_19 ?_
      refine LW.skip rfl (fun _ e => by cases e; decide) rfl hg9_19 ?_
      refine r_pickT rfl rfl hg9_19 ?_
      refine LW.nil (thenE_norm ⟨rfl, rfl, rfl⟩)
    simp only [setL, keepE, upd_get, ev, Nat.reduceEqDiff, ↓reduceIte]; simp only [List.drop_succ_cons, List.drop_zero]
    refine r_move rfl ?_
    refine' LW.grpOr (n := 2) (ts := [3, 9, 10, 11, 13]) (d := 83) (tj := 81) rfl (fun hg9_23 => ?_) (fun hg9_23 => ?_) (fun σ => ?_)
    rotate_left
    · simp only [List.take_succ_cons, List.take_zero]
      have hg9_23P := hg9_23
      try simp only [decide_eq_true_eq, decide_eq_false_iff_not, Bool.and_eq_true, Bool.or_eq_true, Bool.and_eq_false_iff, Bool.or_eq_false_iff, Bool.not_eq_true', Bool.not_eq_false', beq_iff_eq, bne_iff_ne] at hg9_23P
      refine LW.want rfl rfl hg9_23 ?_
      refine r_move rfl ?_
      refine r_pickF rfl rfl hg9_23 ?_
      refine LW.nil (thenE_norm ⟨rfl, rfl, rfl⟩)
    · simp only [List.take_succ_cons, List.take_zero]
      refine LW.skip rfl (fun _ e => by cases e; decide) rfl hg9_23 ?_
      refine r_pickT rfl rfl hg9_23 ?_
      refine LW.nil (thenE_norm ⟨rfl, rfl, rfl⟩)
    simp only [setL, keepE, upd_get, ev, Nat.reduceEqDiff, ↓reduceIte]; simp only [List.drop_succ_cons, List.drop_zero]
    refine r_assign rfl ?_
    refine LW.nil ?_
    refine thenE_norm (h11 _ _ ?_); clear h11; try clear K11
    refine CW.seq (fun K12 h12 => ?_)
    refine CW.region ?_
    refine r_move rfl ?_
    refine r_eql rfl rfl rfl ?_
    refine r_move rfl ?_
    refine r_eqlB rfl Try.underlying4 rfl rfl ?_
    refine r_move rfl ?_
    refine LW.known (t := 88) (c := true) rfl (refuses1 hc1b) (fun hg10_5 => ?_)
    refine LW.want rfl rfl hg10_5 ?_
    refine r_move rfl ?_
    refine LW.want rfl rfl hg10_5 ?_
    refine r_eql rfl rfl rfl ?_
    refine LW.want rfl rfl hg10_5 ?_
    refine r_move rfl ?_
    refine LW.want rfl rfl hg10_5 ?_
    first
      | refine r_lenV rfl Try.underlying48 (by simp only [upd_get, ev, Nat.reduceEqDiff, ↓reduceIte] <;> rfl) (by first | assumption | exact SH.rsR H (by (repeat first | exact At.here | apply At.there); done) | exact SH.rsO H (by (repeat first | exact At.here | apply At.there); done) | exact Rs.toH (by first | assumption | exact SH.rsR H (by (repeat first | exact At.here | apply At.there); done) | exact SH.rsO H (by (repeat first | exact At.here | apply At.there); done)) (by omega) | exact Rs.toL (by first | assumption | exact SH.rsR H (by (repeat first | exact At.here | apply At.there); done) | exact SH.rsO H (by (repeat first | exact At.here | apply At.there); done)) (by omega) | exact Rs.toLH (by first | assumption | exact SH.rsR H (by (repeat first | exact At.here | apply At.there); done) | exact SH.rsO H (by (repeat first | exact At.here | apply At.there); done)) (by omega) (by omega) | exact (Rs.nil : Rs Non _ _ _)) ?_
      | refine r_len rfl Try.underlying48 rfl ?_
    refine LW.want rfl rfl hg10_5 ?_
    refine r_move rfl ?_
    refine LW.want rfl rfl hg10_5 ?_
    first
      | refine r_lenV rfl Try.underlying48 (by simp only [upd_get, ev, Nat.reduceEqDiff, ↓reduceIte] <;> rfl) (by first | assumption | exact SH.rsR H (by (repeat first | exact At.here | apply At.there); done) | exact SH.rsO H (by (repeat first | exact At.here | apply At.there); done) | exact Rs.toH (by first | assumption | exact SH.rsR H (by (repeat first | exact At.here | apply At.there); done) | exact SH.rsO H (by (repeat first | exact At.here | apply At.there); done)) (by omega) | exact Rs.toL (by first | assumption | exact SH.rsR H (by (repeat first | exact At.here | apply At.there); done) | exact SH.rsO H (by (repeat first | exact At.here | apply At.there); done)) (by omega) | exact Rs.toLH (by first | assumption | exact SH.rsR H (by (repeat first | exact At.here | apply At.there); done) | exact SH.rsO H (by (repeat first | exact At.here | apply At.there); done)) (by omega) (by omega) | exact (Rs.nil : Rs Non _ _ _)) ?_
      | refine r_len rfl Try.underlying48 rfl ?_
    refine LW.want rfl rfl hg10_5 ?_
    refine r_add rfl rfl rfl (wr_i64 (by omega) (by omega)) ?_
    refine LW.want rfl rfl hg10_5 ?_
    refine r_eql rfl rfl rfl ?_
    refine LW.want rfl rfl hg10_5 ?_
    refine r_eqlB rfl Try.underlying4 rfl rfl ?_
    refine r_pickT rfl rfl hg10_5 ?_
    refine r_move rfl ?_
    refine LW.known (t := 99) (c := true) rfl (by rw [beq_iff_eq]; exact decide_eq_decide.2 (by rw [hc0]; omega)) (fun hg10_16 => ?_)
    refine LW.want rfl rfl hg10_16 ?_
    refine r_move rfl ?_
    refine LW.want rfl rfl hg10_16 ?_
    refine r_eql rfl rfl rfl ?_
    refine LW.want rfl rfl hg10_16 ?_
    refine r_move rfl ?_
    refine LW.want rfl rfl hg10_16 ?_
    refine r_lss rfl rfl rfl ?_
    refine LW.want rfl rfl hg10_16 ?_
    refine r_move rfl ?_
    refine' LW.grpOr (n := 3) (ts := [99, 101, 110]) (d := 107) (tj := 104) rfl (fun hg10_21 => ?_) (fun hg10_21 => ?_) (fun σ => ?_)
    rotate_left
    · simp only [List.take_succ_cons, List.take_zero]
      have hg10_21P := hg10_21
      try simp only [decide_eq_true_eq, decide_eq_false_iff_not, Bool.and_eq_true, Bool.or_eq_true, Bool.and_eq_false_iff, Bool.or_eq_false_iff, Bool.not_eq_true', Bool.not_eq_false', beq_iff_eq, bne_iff_ne] at hg10_21P
      refine LW.want rfl rfl hg10_21 ?_
      refine r_move rfl ?_
      refine LW.want rfl rfl hg10_21 ?_
      refine r_gtr rfl rfl rfl ?_
      refine LW.want rfl rfl hg10_16 ?_
      refine r_pickF rfl rfl hg10_21 ?_
      refine LW.nil (thenE_norm ⟨rfl, rfl, rfl⟩)
    · simp only [List.take_succ_cons, List.take_zero]
      refine LW.skip rfl (fun _ e => by cases e; decide) rfl hg10_21 ?_
      refine LW.skip rfl (fun _ e => by cases e; decide) rfl hg10_21 ?_
      refine LW.want rfl rfl hg10_16 ?_
      refine r_pickT rfl rfl hg10_21 ?_
      refine LW.nil (thenE_norm ⟨rfl, rfl, rfl⟩)
    simp only [setL, keepE, upd_get, ev, Nat.reduceEqDiff, ↓reduceIte]; simp only [List.drop_succ_cons, List.drop_zero]
    refine LW.want rfl rfl hg10_16 ?_
    refine r_eqlB rfl Try.underlying4 rfl rfl ?_
    refine r_pickT rfl rfl hg10_16 ?_
    refine r_move rfl ?_
    refine LW.known (t := 110) (c := true) rfl (refuses2 hrn) (fun hg10_27 => ?_)
    refine LW.want rfl rfl hg10_27 ?_
    refine r_call rfl Try.call28 (by simp only [List.map_cons, List.map_nil, List.map_toArray, List.toList_toArray, upd_get, ev, Nat.reduceEqDiff, ↓reduceIte] <;> rfl) (awake_c _) ?_
    rintro _ w10_27 ⟨rfl, X⟩
    refine ⟨_, rfl, ?_⟩
    replace H := SH.same H X
    clear X
    refine r_pickT rfl rfl hg10_27 ?_
    refine r_assign rfl ?_
    refine LW.nil ?_
    refine thenE_norm (h12 _ _ ?_); clear h12; try clear K12
    refine CW.ret (ret1 Try.results8 (by simp only [upd_get, ev, Nat.reduceEqDiff, ↓reduceIte]; rfl) ?_)
    exact ⟨by simp, H.ext⟩
end Go.Proofs.Ytcmnhneigojpoaa
