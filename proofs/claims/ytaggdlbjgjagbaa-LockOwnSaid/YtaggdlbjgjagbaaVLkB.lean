/-
  The walks of layer 8's functions, the second part: what is taken, what is freed.
-/
import Derived.Test.YtaggdlbjgjagbaaVLkA
namespace Go.Proofs.Ytaggdlbjgjagbaa
set_option linter.unusedSimpArgs false
set_option linter.unusedVariables false
set_option maxRecDepth 20000
open Go.V Go.RowKit Go.ChangeShapes Go.WideShapes

/-- Locks behind a take, how many are ahead, and the code. -/
def takeM (ms : List Lm) (n : ByteArray) (c tok : Int) (wait : Bool) : List Lm × Int × Int :=
  match ms.find? (isT Lm.name n) with
  | none => if 4 ≤ ms.length then ([], 0, 5) else (putT Lm.name ms ⟨n, c, tok + 1, []⟩, 0, 0)
  | some k => if k.holder = c then ([], 0, 7) else if wait = false then ([], 0, 8) else if c ∈ k.line then (ms, (k.line.idxOf c : Int), 10)
    else if (joinM k.line c).2.2 ≠ 0 then ([], 0, (joinM k.line c).2.2) else (putT Lm.name ms ⟨k.name, k.holder, k.token, (joinM k.line c).1⟩, (joinM k.line c).2.1, 10)
section
variable {ms : List Lm} {n : ByteArray} {c tok : Int} {wait : Bool} {k : Lm}
theorem take_full (h : ms.find? (isT Lm.name n) = none) (h4 : 4 ≤ ms.length) : takeM ms n c tok wait = ([], 0, 5) := by rw [takeM, h]; simp only; rw [if_pos h4]
theorem take_new (h : ms.find? (isT Lm.name n) = none) (h4 : ¬ 4 ≤ ms.length) : takeM ms n c tok wait = (putT Lm.name ms ⟨n, c, tok + 1, []⟩, 0, 0) := by rw [takeM, h]; simp only; rw [if_neg h4]
theorem take_twice (h : ms.find? (isT Lm.name n) = some k) (h1 : k.holder = c) : takeM ms n c tok wait = ([], 0, 7) := by rw [takeM, h]; simp only; rw [if_pos h1]
theorem take_busy (h : ms.find? (isT Lm.name n) = some k) (h1 : ¬ k.holder = c) (h2 : wait = false) : takeM ms n c tok wait = ([], 0, 8) := by rw [takeM, h]; simp only; rw [if_neg h1, if_pos h2]
theorem take_in (h : ms.find? (isT Lm.name n) = some k) (h1 : ¬ k.holder = c) (h2 : ¬ wait = false) (h3 : c ∈ k.line) : takeM ms n c tok wait = (ms, (k.line.idxOf c : Int), 10) := by rw [takeM, h]; simp only; rw [if_neg h1, if_neg h2, if_pos h3]
theorem take_not (h : ms.find? (isT Lm.name n) = some k) (h1 : ¬ k.holder = c) (h2 : ¬ wait = false) (h3 : ¬ c ∈ k.line) (h4 : (joinM k.line c).2.2 ≠ 0) : takeM ms n c tok wait = ([], 0, (joinM k.line c).2.2) := by rw [takeM, h]; simp only; rw [if_neg h1, if_neg h2, if_neg h3, if_pos h4]
theorem take_join (h : ms.find? (isT Lm.name n) = some k) (h1 : ¬ k.holder = c) (h2 : ¬ wait = false) (h3 : ¬ c ∈ k.line) (h4 : ¬ (joinM k.line c).2.2 ≠ 0) : takeM ms n c tok wait = (putT Lm.name ms ⟨k.name, k.holder, k.token, (joinM k.line c).1⟩, (joinM k.line c).2.1, 10) := by rw [takeM, h]; simp only; rw [if_neg h1, if_neg h2, if_neg h3, if_neg h4]
end
/-- Where a name stands among raw locks. -/
theorem raw_at {K : Nat → Prop} {w : World} {raws : List Lk} {ms : List Lm} (hm : LksA K raws ms w) (hup : UpT Lm.name ms) {n : ByteArray} {s : Lk} {i : Nat} (hs : raws[i]? = some s) (hc : s.name = n) : ∃ m, ms[i]? = some m ∧ m.name = n ∧ ms.find? (isT Lm.name n) = some m ∧ LkR K w s m := by
  obtain ⟨m, h1, h2⟩ := All2.get hm hs
  have h3 : m.name = n := by rw [← h2.1]; exact hc
  exact ⟨m, h1, h3, by rw [← h3]; exact upT_find hup (List.mem_of_getElem? h1), h2⟩
theorem none_raw {K : Nat → Prop} {w : World} {raws : List Lk} {ms : List Lm} (hm : LksA K raws ms w) {n : ByteArray} (h : raws.find? (isT Lk.name n) = none) : ms.find? (isT Lm.name n) = none := by
  rcases all2_findT lkr_key n hm with ⟨r, m, hr, _⟩ | ⟨_, q⟩
  · rw [h] at hr; cases hr
  · exact q
set_option maxHeartbeats 16000000 in
theorem TakeK_c {F K : Nat → Prop} {v : Value} {raws : List Lk} {ms : List Lm} (n : ByteArray) (c tok : Int) (wait : Bool) (w : World) (hv : Rs F w v raws) (hm : LksA K raws ms w) (hn : raws.length ≤ 1000) (hs : shortL ms) (hup : UpT Lm.name ms) (t0 : 0 ≤ tok) (t1 : tok ≤ 1000000) :
    Calls Try.prog 32 #[v, .string n, .int .i64 c, .int .i64 tok, .bool wait] w fun e w' => ∃ (v' : Value) (raws' : List Lk) (g : Option Nat) (F' : Nat → Prop), e = .returned (.tuple #[v', .int .i64 (takeM ms n c tok wait).2.1, .int .i64 (takeM ms n c tok wait).2.2]) ∧
      SH Non Non w w' [.O 53 v' raws' g, .P F' (LksA F' raws' (takeM ms n c tok wait).1)] := by
  have H := (SH.start w).arg hv
  have hupr := all2_upT lkr_key hm hup
  have l1 := All2.len hm
  have hat := atT_le Lk.name raws n
  refine calls_of_CW Try.func32 rfl Try.ntmps32 (Nat.le_of_ble_eq_true rfl) ?_
  simp only [argE, argFrom, Nat.reduceAdd]
  refine CW.seq (fun K1 h1 => ?_)
  refine CW.region ?_
  refine r_assign rfl ?_
  refine r_assign rfl ?_
  refine r_assign rfl ?_
  refine LW.nil ?_
  refine thenE_norm (h1 _ _ ?_); clear h1; try clear K1
  refine CW.seq (fun K2 h2 => ?_)
  refine CW.region ?_
  refine r_move rfl ?_
  refine r_move rfl ?_
  refine r_call rfl Try.call56 (by simp only [List.map_cons, List.map_nil, List.map_toArray, List.toList_toArray, upd_get, ev, Nat.reduceEqDiff, ↓reduceIte] <;> rfl) (placeK_c n _ (SH.rsR H (i := 0) rfl) (by omega) hupr) ?_
  rintro _ w1_2 ⟨rfl, X⟩
  refine ⟨_, rfl, ?_⟩
  replace H := SH.same H X
  clear X
  refine r_move rfl ?_
  refine r_extract rfl (by simp only [upd_get, ev, Nat.reduceEqDiff, ↓reduceIte] <;> rfl) (by simp only [List.getElem?_toArray, List.getElem?_cons_zero, List.getElem?_cons_succ] <;> rfl) ?_
  refine r_extract rfl (by simp only [upd_get, ev, Nat.reduceEqDiff, ↓reduceIte] <;> rfl) (by simp only [List.getElem?_toArray, List.getElem?_cons_zero, List.getElem?_cons_succ] <;> rfl) ?_
  refine r_assign rfl ?_
  refine r_assign rfl ?_
  refine LW.nil ?_
  refine thenE_norm ?_
  refine cut (K := K2) [0, 1, 2, 3, 4, 13, 14] (fun σ => ?_)
  simp only [setL, keepE, upd_get, ev, Nat.reduceEqDiff, ↓reduceIte]
  refine h2 _ _ ?_; clear h2; try clear K2
  refine CW.seq (fun K3 h3 => ?_)
  refine CW.block ?_
  refine CW.seq (fun K4 h4 => ?_)
  rcases findT_place hupr n with ⟨hin, s, hs0, hc, hf⟩ | ⟨hin, hf, hno⟩
  · rw [hin]
    have hsl := lt_of_get hs0
    obtain ⟨m, hmi, hmn, hmf, hrm⟩ := raw_at hm hup hs0 hc
    have hml := hs m (List.mem_of_getElem? hmi)
    obtain ⟨s1, s2, s3, s4⟩ := s
    obtain ⟨m1, m2, m3, m4⟩ := m
    obtain ⟨e1, e2, e3, e4⟩ := hrm
    dsimp only at e1 e2 e3 e4 hc hmn hml
    subst e2 e3
    replace hmn := hmn.symm
    subst hmn
    replace e1 := e1.symm
    subst e1
    refine CW.region ?_
    refine r_move rfl ?_
    refine r_not rfl rfl ?_
    refine r_move rfl ?_
    refine' LW.grpAnd (n := 4) (ts := [0, 1, 2, 3, 4, 13, 14]) (d := 34) (tj := 30) rfl (fun hg2_3 => ?_) (fun hg2_3 => ?_) (fun σ => ?_)
    rotate_left
    · simp only [List.take_succ_cons, List.take_zero]
      have hg2_3P := hg2_3
      try simp only [decide_eq_true_eq, decide_eq_false_iff_not, Bool.and_eq_true, Bool.or_eq_true, Bool.and_eq_false_iff, Bool.or_eq_false_iff, Bool.not_eq_true', Bool.not_eq_false', beq_iff_eq, bne_iff_ne] at hg2_3P
      refine LW.want rfl rfl hg2_3 ?_
      refine r_move rfl ?_
      refine LW.want rfl rfl hg2_3 ?_
      first
        | refine r_lenV rfl Try.underlying48 (by simp only [upd_get, ev, Nat.reduceEqDiff, ↓reduceIte] <;> rfl) (by first | assumption | exact SH.rsR H (by (repeat first | exact At.here | apply At.there); done) | exact SH.rsO H (by (repeat first | exact At.here | apply At.there); done) | exact (Rs.nil : Rs Non _ _ _)) ?_
        | refine r_len rfl Try.underlying48 rfl ?_
      refine LW.want rfl rfl hg2_3 ?_
      refine r_geq rfl rfl rfl ?_
      refine r_pickT rfl rfl hg2_3 ?_
      refine LW.nil (thenE_norm ⟨rfl, rfl, rfl⟩)
    · simp only [List.take_succ_cons, List.take_zero]
      refine LW.skip rfl (fun _ e => by cases e; decide) rfl hg2_3 ?_
      refine LW.skip rfl (fun _ e => by cases e; decide) rfl hg2_3 ?_
      refine LW.skip rfl (fun _ e => by cases e; decide) rfl hg2_3 ?_
      refine r_pickF rfl rfl hg2_3 ?_
      refine LW.nil (thenE_norm ⟨rfl, rfl, rfl⟩)
    simp only [setL, keepE, upd_get, ev, Nat.reduceEqDiff, ↓reduceIte]; simp only [List.drop_succ_cons, List.drop_zero]
    refine r_assign rfl ?_
    refine LW.nil ?_
    refine thenE_norm (h4 _ _ ?_); clear h4; try clear K4
    refine CW.condF rfl (by simp) ?_
    refine CW.seq (fun K5 h5 => ?_)
    refine CW.region ?_
    refine r_move rfl ?_
    refine r_not rfl rfl ?_
    refine r_assign rfl ?_
    refine LW.nil ?_
    refine thenE_norm (h5 _ _ ?_); clear h5; try clear K5
    refine CW.condF rfl (by first | rfl | (simp only [decide_eq_true_eq, decide_eq_false_iff_not, Bool.and_eq_true, Bool.or_eq_true, Bool.and_eq_false_iff, Bool.or_eq_false_iff, Bool.not_eq_true', Bool.not_eq_false', beq_iff_eq, bne_iff_ne]; omega) | simp_all) ?_
    refine CW.seq (fun K6 h6 => ?_)
    refine CW.region ?_
    refine r_move rfl ?_
    refine r_move rfl ?_
    refine r_indexAddrV rfl Try.underlying48 (by simp only [upd_get, ev, Nat.reduceEqDiff, ↓reduceIte] <;> rfl) rfl (by first | assumption | exact SH.rsR H (by (repeat first | exact At.here | apply At.there); done) | exact SH.rsO H (by (repeat first | exact At.here | apply At.there); done) | exact (Rs.nil : Rs Non _ _ _)) (by exact Try.sizeOf53) (by omega) (by omega) ?_
    refine r_fieldAddrO rfl Try.underlying53 rfl Try.sizeOf3 (by decide) (show _ + 1 = _ from rfl) rfl ?_
    refine r_load rfl Try.isAgg3 rfl (by first | exact Rs.cell (o := 1) (by first | assumption | exact SH.rsR H (by (repeat first | exact At.here | apply At.there); done) | exact SH.rsO H (by (repeat first | exact At.here | apply At.there); done) | exact (Rs.nil : Rs Non _ _ _)) (by assumption) (by rfl) | exact Rs.cell0 (by first | assumption | exact SH.rsR H (by (repeat first | exact At.here | apply At.there); done) | exact SH.rsO H (by (repeat first | exact At.here | apply At.there); done) | exact (Rs.nil : Rs Non _ _ _)) (by assumption) (by rfl) | assumption) ?_
    refine r_move rfl ?_
    refine r_eql rfl rfl rfl ?_
    refine r_assign rfl ?_
    refine LW.nil ?_
    refine thenE_norm ?_
    refine cut (K := K6) [0, 2, 4, 13, 48] (fun σ => ?_)
    simp only [setL, keepE, upd_get, ev, Nat.reduceEqDiff, ↓reduceIte]
    refine h6 _ _ ?_; clear h6; try clear K6
    refine CW.cond rfl (fun hc3 => ?_) (fun hc3 => ?_)
    · try simp only [decide_eq_true_eq, decide_eq_false_iff_not, Bool.and_eq_true, Bool.or_eq_true, Bool.and_eq_false_iff, Bool.or_eq_false_iff, Bool.not_eq_true', Bool.not_eq_false', beq_iff_eq, bne_iff_ne, ne_eq, Decidable.not_not] at hc3
      refine CW.seq (fun K7 h7 => ?_)
      refine CW.region ?_
      refine r_assign rfl ?_
      refine r_assign rfl ?_
      refine r_assign rfl ?_
      refine LW.nil ?_
      refine thenE_norm (h7 _ _ ?_); clear h7; try clear K7
      refine CW.ret (blockE_ret (thenE_ret (ret3 Try.results32 (by simp only [upd_get, ev, Nat.reduceEqDiff, ↓reduceIte]; rfl) (by simp only [upd_get, ev, Nat.reduceEqDiff, ↓reduceIte]; rfl) (by simp only [upd_get, ev, Nat.reduceEqDiff, ↓reduceIte]; rfl) ?_)))
      rw [take_twice hmf hc3]
      exact ⟨_, _, _, _, rfl, SH.give (addLs (SH.sel (H.addO (α := Lk) 53) [1] (by decide) rfl)) (List.Sublist.refl _) ⟨trivial, trivial, trivial⟩⟩
    · try simp only [decide_eq_true_eq, decide_eq_false_iff_not, Bool.and_eq_true, Bool.or_eq_true, Bool.and_eq_false_iff, Bool.or_eq_false_iff, Bool.not_eq_true', Bool.not_eq_false', beq_iff_eq, bne_iff_ne, ne_eq, Decidable.not_not] at hc3
      refine CW.seq (fun K8 h8 => ?_)
      refine CW.region ?_
      refine r_move rfl ?_
      refine r_not rfl rfl ?_
      refine r_assign rfl ?_
      refine LW.nil ?_
      refine thenE_norm (h8 _ _ ?_); clear h8; try clear K8
      refine CW.cond rfl (fun hc4 => ?_) (fun hc4 => ?_)
      · try simp only [decide_eq_true_eq, decide_eq_false_iff_not, Bool.and_eq_true, Bool.or_eq_true, Bool.and_eq_false_iff, Bool.or_eq_false_iff, Bool.not_eq_true', Bool.not_eq_false', beq_iff_eq, bne_iff_ne, ne_eq, Decidable.not_not] at hc4
        refine CW.seq (fun K9 h9 => ?_)
        refine CW.region ?_
        refine r_assign rfl ?_
        refine r_assign rfl ?_
        refine r_assign rfl ?_
        refine LW.nil ?_
        refine thenE_norm (h9 _ _ ?_); clear h9; try clear K9
        refine CW.ret (blockE_ret (thenE_ret (ret3 Try.results32 (by simp only [upd_get, ev, Nat.reduceEqDiff, ↓reduceIte]; rfl) (by simp only [upd_get, ev, Nat.reduceEqDiff, ↓reduceIte]; rfl) (by simp only [upd_get, ev, Nat.reduceEqDiff, ↓reduceIte]; rfl) ?_)))
        rw [take_busy hmf hc3 hc4]
        exact ⟨_, _, _, _, rfl, SH.give (addLs (SH.sel (H.addO (α := Lk) 53) [1] (by decide) rfl)) (List.Sublist.refl _) ⟨trivial, trivial, trivial⟩⟩
      · try simp only [decide_eq_true_eq, decide_eq_false_iff_not, Bool.and_eq_true, Bool.or_eq_true, Bool.and_eq_false_iff, Bool.or_eq_false_iff, Bool.not_eq_true', Bool.not_eq_false', beq_iff_eq, bne_iff_ne, ne_eq, Decidable.not_not] at hc4
        refine CW.skip ?_
        refine blockE_norm ?_
        refine thenE_norm (h3 _ _ ?_); clear h3; try clear K3
        refine CW.seq (fun K10 h10 => ?_)
        refine CW.seq (fun K11 h11 => ?_)
        have hw : ¬ wait = false := by rw [hc4]; decide
        refine CW.region ?_
        refine r_move rfl ?_
        refine r_move rfl ?_
        refine r_indexAddrV rfl Try.underlying48 (by simp only [upd_get, ev, Nat.reduceEqDiff, ↓reduceIte] <;> rfl) rfl (by first | assumption | exact SH.rsR H (by (repeat first | exact At.here | apply At.there); done) | exact SH.rsO H (by (repeat first | exact At.here | apply At.there); done) | exact (Rs.nil : Rs Non _ _ _)) (by exact Try.sizeOf53) (by omega) (by omega) ?_
        refine r_fieldAddrO rfl Try.underlying53 rfl Try.sizeOf22 (by decide) (show _ + 3 = _ from rfl) rfl ?_
        refine r_load rfl Try.isAgg22 rfl (by first | exact Rs.cell (o := 3) (by first | assumption | exact SH.rsR H (by (repeat first | exact At.here | apply At.there); done) | exact SH.rsO H (by (repeat first | exact At.here | apply At.there); done) | exact (Rs.nil : Rs Non _ _ _)) (by assumption) (by rfl) | exact Rs.cell0 (by first | assumption | exact SH.rsR H (by (repeat first | exact At.here | apply At.there); done) | exact SH.rsO H (by (repeat first | exact At.here | apply At.there); done) | exact (Rs.nil : Rs Non _ _ _)) (by assumption) (by rfl) | assumption) ?_
        refine r_move rfl ?_
        refine r_call rfl Try.call18 (by simp only [List.map_cons, List.map_nil, List.map_toArray, List.toList_toArray, upd_get, ev, Nat.reduceEqDiff, ↓reduceIte] <;> rfl) (Ahead_c c _ (e4.up0 (SH.ext H))) ?_
        rintro _ _ ⟨rfl, rfl⟩
        refine ⟨_, rfl, ?_⟩
        refine r_move rfl ?_
        refine r_extract rfl (by simp only [upd_get, ev, Nat.reduceEqDiff, ↓reduceIte] <;> rfl) (by simp only [List.getElem?_toArray, List.getElem?_cons_zero, List.getElem?_cons_succ] <;> rfl) ?_
        refine r_extract rfl (by simp only [upd_get, ev, Nat.reduceEqDiff, ↓reduceIte] <;> rfl) (by simp only [List.getElem?_toArray, List.getElem?_cons_zero, List.getElem?_cons_succ] <;> rfl) ?_
        refine r_assign rfl ?_
        refine r_assign rfl ?_
        refine LW.nil ?_
        refine thenE_norm ?_
        refine cut (K := K11) [0, 2, 13, 15, 16] (fun σ => ?_)
        simp only [setL, keepE, upd_get, ev, Nat.reduceEqDiff, ↓reduceIte]
        refine h11 _ _ ?_; clear h11; try clear K11
        refine CW.seq (fun K12 h12 => ?_)
        by_cases hin2 : c ∈ m4
        · rw [aheadM, if_pos hin2]
          refine CW.region ?_
          refine r_move rfl ?_
          refine LW.nil ?_
          refine thenE_norm (h12 _ _ ?_); clear h12; try clear K12
          refine CW.condT rfl (by first | rfl | (simp only [decide_eq_true_eq, decide_eq_false_iff_not, Bool.and_eq_true, Bool.or_eq_true, Bool.and_eq_false_iff, Bool.or_eq_false_iff, Bool.not_eq_true', Bool.not_eq_false', beq_iff_eq, bne_iff_ne]; omega) | simp_all) ?_
          refine CW.seq (fun K13 h13 => ?_)
          refine CW.region ?_
          refine r_move rfl ?_
          refine r_call rfl Try.call58 (by simp only [List.map_cons, List.map_nil, List.map_toArray, List.toList_toArray, upd_get, ev, Nat.reduceEqDiff, ↓reduceIte] <;> rfl) (copiedK_c _ (SH.rsR H (i := 0) rfl) (hm.up0 (SH.ext H)) (by omega) hs) ?_
          rintro _ w12_1 ⟨v12_1, raws12_1, g12_1, F12_1, rfl, K⟩
          refine ⟨_, rfl, ?_⟩
          replace H := SH.call H K
          clear K
          try dsimp only [replC, List.cons_append, List.nil_append, List.append_nil] at H
          refine r_move rfl ?_
          refine r_assign rfl ?_
          refine r_assign rfl ?_
          refine r_assign rfl ?_
          refine LW.nil ?_
          refine thenE_norm (h13 _ _ ?_); clear h13; try clear K13
          refine CW.ret (thenE_ret (ret3 Try.results32 (by simp only [upd_get, ev, Nat.reduceEqDiff, ↓reduceIte]; rfl) (by simp only [upd_get, ev, Nat.reduceEqDiff, ↓reduceIte]; rfl) (by simp only [upd_get, ev, Nat.reduceEqDiff, ↓reduceIte]; rfl) ?_))
          rw [take_in hmf hc3 hw hin2]
          exact ⟨_, _, _, _, rfl, SH.give (SH.sel H [1, 2] (by decide) rfl) (List.Sublist.refl _) ⟨trivial, trivial, trivial⟩⟩
        · rw [aheadM, if_neg hin2]
          refine CW.region ?_
          refine r_move rfl ?_
          refine LW.nil ?_
          refine thenE_norm (h12 _ _ ?_); clear h12; try clear K12
          refine CW.condF rfl (by first | rfl | (simp only [decide_eq_true_eq, decide_eq_false_iff_not, Bool.and_eq_true, Bool.or_eq_true, Bool.and_eq_false_iff, Bool.or_eq_false_iff, Bool.not_eq_true', Bool.not_eq_false', beq_iff_eq, bne_iff_ne]; omega) | simp_all) ?_
          refine CW.skip ?_
          refine thenE_norm (h10 _ _ ?_); clear h10; try clear K10
          refine CW.seq (fun K14 h14 => ?_)
          refine CW.region ?_
          refine r_move rfl ?_
          refine r_move rfl ?_
          refine r_indexAddrV rfl Try.underlying48 (by simp only [upd_get, ev, Nat.reduceEqDiff, ↓reduceIte] <;> rfl) rfl (by first | assumption | exact SH.rsR H (by (repeat first | exact At.here | apply At.there); done) | exact SH.rsO H (by (repeat first | exact At.here | apply At.there); done) | exact (Rs.nil : Rs Non _ _ _)) (by exact Try.sizeOf53) (by omega) (by omega) ?_
          refine r_fieldAddrO rfl Try.underlying53 rfl Try.sizeOf22 (by decide) (show _ + 3 = _ from rfl) rfl ?_
          refine r_load rfl Try.isAgg22 rfl (by first | exact Rs.cell (o := 3) (by first | assumption | exact SH.rsR H (by (repeat first | exact At.here | apply At.there); done) | exact SH.rsO H (by (repeat first | exact At.here | apply At.there); done) | exact (Rs.nil : Rs Non _ _ _)) (by assumption) (by rfl) | exact Rs.cell0 (by first | assumption | exact SH.rsR H (by (repeat first | exact At.here | apply At.there); done) | exact SH.rsO H (by (repeat first | exact At.here | apply At.there); done) | exact (Rs.nil : Rs Non _ _ _)) (by assumption) (by rfl) | assumption) ?_
          refine r_move rfl ?_
          refine r_call rfl Try.call17 (by simp only [List.map_cons, List.map_nil, List.map_toArray, List.toList_toArray, upd_get, ev, Nat.reduceEqDiff, ↓reduceIte] <;> rfl) (Join_c c _ (e4.up0 (SH.ext H))) ?_
          rintro _ w13_6 ⟨v13_6, g13_6, rfl, K⟩
          refine ⟨_, rfl, ?_⟩
          replace H := SH.call H K
          clear K
          try dsimp only [replC, List.cons_append, List.nil_append, List.append_nil] at H
          refine r_move rfl ?_
          refine r_extract rfl (by simp only [upd_get, ev, Nat.reduceEqDiff, ↓reduceIte] <;> rfl) (by simp only [List.getElem?_toArray, List.getElem?_cons_zero, List.getElem?_cons_succ] <;> rfl) ?_
          refine r_extract rfl (by simp only [upd_get, ev, Nat.reduceEqDiff, ↓reduceIte] <;> rfl) (by simp only [List.getElem?_toArray, List.getElem?_cons_zero, List.getElem?_cons_succ] <;> rfl) ?_
          refine r_extract rfl (by simp only [upd_get, ev, Nat.reduceEqDiff, ↓reduceIte] <;> rfl) (by simp only [List.getElem?_toArray, List.getElem?_cons_zero, List.getElem?_cons_succ] <;> rfl) ?_
          refine r_assign rfl ?_
          refine r_assign rfl ?_
          refine r_assign rfl ?_
          refine LW.nil ?_
          refine thenE_norm ?_
          refine cut (K := K14) [0, 13, 17, 18, 19] (fun σ => ?_)
          simp only [setL, keepE, upd_get, ev, Nat.reduceEqDiff, ↓reduceIte]
          refine h14 _ _ ?_; clear h14; try clear K14
          refine CW.seq (fun K15 h15 => ?_)
          refine CW.seq (fun K16 h16 => ?_)
          refine CW.region ?_
          refine r_move rfl ?_
          refine r_neq rfl rfl rfl ?_
          refine LW.nil ?_
          refine thenE_norm (h16 _ _ ?_); clear h16; try clear K16
          refine CW.cond rfl (fun hc6 => ?_) (fun hc6 => ?_)
          · try simp only [decide_eq_true_eq, decide_eq_false_iff_not, Bool.and_eq_true, Bool.or_eq_true, Bool.and_eq_false_iff, Bool.or_eq_false_iff, Bool.not_eq_true', Bool.not_eq_false', beq_iff_eq, bne_iff_ne, ne_eq, Decidable.not_not] at hc6
            refine CW.seq (fun K17 h17 => ?_)
            refine CW.region ?_
            refine r_move rfl ?_
            refine r_assign rfl ?_
            refine r_assign rfl ?_
            refine r_assign rfl ?_
            refine LW.nil ?_
            refine thenE_norm (h17 _ _ ?_); clear h17; try clear K17
            refine CW.ret (thenE_ret (ret3 Try.results32 (by simp only [upd_get, ev, Nat.reduceEqDiff, ↓reduceIte]; rfl) (by simp only [upd_get, ev, Nat.reduceEqDiff, ↓reduceIte]; rfl) (by simp only [upd_get, ev, Nat.reduceEqDiff, ↓reduceIte]; rfl) ?_))
            rw [take_not hmf hc3 hw hin2 hc6]
            exact ⟨_, _, _, _, rfl, SH.give (addLs (SH.sel (H.addO (α := Lk) 53) [2] (by decide) rfl)) (List.Sublist.refl _) ⟨trivial, trivial, trivial⟩⟩
          · try simp only [decide_eq_true_eq, decide_eq_false_iff_not, Bool.and_eq_true, Bool.or_eq_true, Bool.and_eq_false_iff, Bool.or_eq_false_iff, Bool.not_eq_true', Bool.not_eq_false', beq_iff_eq, bne_iff_ne, ne_eq, Decidable.not_not] at hc6
            refine CW.skip ?_
            refine thenE_norm (h15 _ _ ?_); clear h15; try clear K15
            refine CW.seq (fun K18 h18 => ?_)
            refine CW.region ?_
            refine r_move rfl ?_
            refine r_call rfl Try.call58 (by simp only [List.map_cons, List.map_nil, List.map_toArray, List.toList_toArray, upd_get, ev, Nat.reduceEqDiff, ↓reduceIte] <;> rfl) (copiedK_c _ (SH.rsR H (i := 0) rfl) (hm.up0 (SH.ext H)) (by omega) hs) ?_
            rintro _ w16_1 ⟨v16_1, raws16_1, g16_1, F16_1, rfl, K⟩
            refine ⟨_, rfl, ?_⟩
            replace H := SH.call H K
            clear K
            try dsimp only [replC, List.cons_append, List.nil_append, List.append_nil] at H
            have hm6 : LksA F16_1 raws16_1 ms w16_1 := SH.prop H (i := 3) rfl
            have hup6 := all2_upT lkr_key hm6 hup
            have hat6 : atT Lk.name raws n = atT Lk.name raws16_1 n := by rw [all2_lowT lkr_key n hm, all2_lowT lkr_key n hm6]
            obtain ⟨q, hq, hqr⟩ := All2.get' hm6 hmi
            obtain ⟨q1, q2, q3, q4⟩ := q
            obtain ⟨d1, d2, d3, d4⟩ := hqr
            dsimp only at d1 d2 d3 d4
            subst d2 d3
            replace d1 := d1.symm
            subst d1
            have hql := lt_of_get hq
            have hq6 : raws16_1[atT Lk.name raws16_1 n]? = some ⟨n, q2, q3, q4⟩ := by rw [← hat6]; exact hq
            have hq7 : raws16_1[((atT Lk.name raws n : Nat) : Int).toNat]? = some ⟨n, q2, q3, q4⟩ := hq
            refine r_assign rfl ?_
            refine LW.nil ?_
            refine thenE_norm (h18 _ _ ?_); clear h18; try clear K18
            refine CW.seq (fun K19 h19 => ?_)
            refine CW.region ?_
            refine r_move rfl ?_
            refine r_move rfl ?_
            refine r_move rfl ?_
            refine r_indexAddrV rfl Try.underlying48 (by simp only [upd_get, ev, Nat.reduceEqDiff, ↓reduceIte] <;> rfl) rfl (by first | assumption | exact SH.rsR H (by (repeat first | exact At.here | apply At.there); done) | exact SH.rsO H (by (repeat first | exact At.here | apply At.there); done) | exact (Rs.nil : Rs Non _ _ _)) (by exact Try.sizeOf53) (by omega) (by omega) ?_
            refine r_fieldAddrO rfl Try.underlying53 rfl Try.sizeOf22 (by decide) (show _ + 3 = _ from rfl) rfl ?_
            refine s_storeR (o := 3) (x1 := (⟨n, q2, q3, v13_6⟩ : Lk)) H Try.sizeOf22 rfl (by simp only [upd_get, ev, Nat.reduceEqDiff, ↓reduceIte] <;> rfl) (by first | rfl | assumption | exact Rs.oneC (by first | assumption | exact SH.rsR H (by (repeat first | exact At.here | apply At.there); done) | exact SH.rsO H (by (repeat first | exact At.here | apply At.there); done) | exact (Rs.nil : Rs Non _ _ _)) | (simp only [List.all_cons, List.all_nil, Bool.and_true, Bool.and_eq_true, Row.cells, Gr.L, Lk.L]; (repeat' constructor) <;> first | rfl | assumption | exact Rs.oneC (by first | assumption | exact SH.rsR H (by (repeat first | exact At.here | apply At.there); done) | exact SH.rsO H (by (repeat first | exact At.here | apply At.there); done) | exact (Rs.nil : Rs Non _ _ _)))) (by (repeat first | exact At.here | apply At.there); done) hq7 (by rfl) (by rfl) (by rfl) (by first | rfl | assumption | exact Rs.oneC (by first | assumption | exact SH.rsR H (by (repeat first | exact At.here | apply At.there); done) | exact SH.rsO H (by (repeat first | exact At.here | apply At.there); done) | exact (Rs.nil : Rs Non _ _ _)) | (simp only [List.all_cons, List.all_nil, Bool.and_true, Bool.and_eq_true, Row.cells, Gr.L, Lk.L]; (repeat' constructor) <;> first | rfl | assumption | exact Rs.oneC (by first | assumption | exact SH.rsR H (by (repeat first | exact At.here | apply At.there); done) | exact SH.rsO H (by (repeat first | exact At.here | apply At.there); done) | exact (Rs.nil : Rs Non _ _ _)))) ?_
            clear H
            intro w17_5 H
            try dsimp only [replC, List.cons_append, List.nil_append, List.append_nil, agg, cellsL, Value.cells, List.toList_toArray, List.set_cons_zero, List.set_cons_succ, spliceL, List.take_succ_cons, List.take_zero, List.drop_succ_cons, List.drop_zero, List.length_cons, List.length_nil, Nat.reduceAdd, Row.cells, Gr.L, Lk.L] at H
            refine LW.nil ?_
            refine thenE_norm ?_
            refine cut (K := K19) [18, 20] (fun σ => ?_)
            simp only [setL, keepE, upd_get, ev, Nat.reduceEqDiff, ↓reduceIte]
            refine h19 _ _ ?_; clear h19; try clear K19
            refine CW.seq (fun K20 h20 => ?_)
            refine CW.region ?_
            refine r_move rfl ?_
            refine r_move rfl ?_
            refine r_assign rfl ?_
            refine r_assign rfl ?_
            refine r_assign rfl ?_
            refine LW.nil ?_
            refine thenE_norm (h20 _ _ ?_); clear h20; try clear K20
            refine CW.ret (ret3 Try.results32 (by simp only [upd_get, ev, Nat.reduceEqDiff, ↓reduceIte]; rfl) (by simp only [upd_get, ev, Nat.reduceEqDiff, ↓reduceIte]; rfl) (by simp only [upd_get, ev, Nat.reduceEqDiff, ↓reduceIte]; rfl) ?_)
            have hput : raws16_1.set (atT Lk.name raws n) (⟨n, q2, q3, v13_6⟩ : Lk) = putT Lk.name raws16_1 ⟨n, q2, q3, v13_6⟩ := by
              rw [hat6]
              exact (putT_in (m := (⟨n, q2, q3, v13_6⟩ : Lk)) hup6 hq6 rfl).symm
            rw [take_join hmf hc3 hw hin2 (fun h => h hc6)]
            have H2 := SH.absorb (A' := LksA _ (raws16_1.set (atT Lk.name raws n) (⟨n, q2, q3, v13_6⟩ : Lk)) (putT Lm.name ms ⟨n, q2, q3, (joinM m4 c).1⟩)) (SH.sel H [3, 1, 0, 2] (by decide) rfl) trivial lks_st (fun h k => by
              rw [hput]
              exact all2_putT lkr_key (LksA.mono h fun b hb => .inl hb) ⟨rfl, rfl, rfl, (Ow.rs k).mono fun b _ hb => .inr hb⟩)
            exact ⟨_, _, _, _, rfl, SH.give (SH.sel H2 [2, 0] (by decide) rfl) (List.Sublist.refl _) ⟨trivial, trivial, trivial⟩⟩
  · rw [hin]
    have hmf := none_raw hm hf
    refine CW.region ?_
    refine r_move rfl ?_
    refine r_not rfl rfl ?_
    refine r_move rfl ?_
    refine' LW.grpAnd (n := 4) (ts := [0, 1, 2, 3, 4, 13, 14]) (d := 34) (tj := 30) rfl (fun hg2_3 => ?_) (fun hg2_3 => ?_) (fun σ => ?_)
    rotate_left
    · simp only [List.take_succ_cons, List.take_zero]
      have hg2_3P := hg2_3
      try simp only [decide_eq_true_eq, decide_eq_false_iff_not, Bool.and_eq_true, Bool.or_eq_true, Bool.and_eq_false_iff, Bool.or_eq_false_iff, Bool.not_eq_true', Bool.not_eq_false', beq_iff_eq, bne_iff_ne] at hg2_3P
      refine LW.want rfl rfl hg2_3 ?_
      refine r_move rfl ?_
      refine LW.want rfl rfl hg2_3 ?_
      first
        | refine r_lenV rfl Try.underlying48 (by simp only [upd_get, ev, Nat.reduceEqDiff, ↓reduceIte] <;> rfl) (by first | assumption | exact SH.rsR H (by (repeat first | exact At.here | apply At.there); done) | exact SH.rsO H (by (repeat first | exact At.here | apply At.there); done) | exact (Rs.nil : Rs Non _ _ _)) ?_
        | refine r_len rfl Try.underlying48 rfl ?_
      refine LW.want rfl rfl hg2_3 ?_
      refine r_geq rfl rfl rfl ?_
      refine r_pickT rfl rfl hg2_3 ?_
      refine LW.nil (thenE_norm ⟨rfl, rfl, rfl⟩)
    · simp only [List.take_succ_cons, List.take_zero]
      refine LW.skip rfl (fun _ e => by cases e; decide) rfl hg2_3 ?_
      refine LW.skip rfl (fun _ e => by cases e; decide) rfl hg2_3 ?_
      refine LW.skip rfl (fun _ e => by cases e; decide) rfl hg2_3 ?_
      refine r_pickF rfl rfl hg2_3 ?_
      refine LW.nil (thenE_norm ⟨rfl, rfl, rfl⟩)
    simp only [setL, keepE, upd_get, ev, Nat.reduceEqDiff, ↓reduceIte]; simp only [List.drop_succ_cons, List.drop_zero]
    refine r_assign rfl ?_
    refine LW.nil ?_
    refine thenE_norm (h4 _ _ ?_); clear h4; try clear K4
    refine CW.cond rfl (fun hc1 => ?_) (fun hc1 => ?_)
    · try simp only [decide_eq_true_eq, decide_eq_false_iff_not, Bool.and_eq_true, Bool.or_eq_true, Bool.and_eq_false_iff, Bool.or_eq_false_iff, Bool.not_eq_true', Bool.not_eq_false', beq_iff_eq, bne_iff_ne, ne_eq, Decidable.not_not] at hc1
      refine CW.seq (fun K21 h21 => ?_)
      refine CW.region ?_
      refine r_assign rfl ?_
      refine r_assign rfl ?_
      refine r_assign rfl ?_
      refine LW.nil ?_
      refine thenE_norm (h21 _ _ ?_); clear h21; try clear K21
      refine CW.ret (blockE_ret (thenE_ret (ret3 Try.results32 (by simp only [upd_get, ev, Nat.reduceEqDiff, ↓reduceIte]; rfl) (by simp only [upd_get, ev, Nat.reduceEqDiff, ↓reduceIte]; rfl) (by simp only [upd_get, ev, Nat.reduceEqDiff, ↓reduceIte]; rfl) ?_)))
      rw [take_full hmf (by first | omega | (simp at hc1; omega))]
      exact ⟨_, _, _, _, rfl, SH.give (addLs (SH.sel (H.addO (α := Lk) 53) [1] (by decide) rfl)) (List.Sublist.refl _) ⟨trivial, trivial, trivial⟩⟩
    · try simp only [decide_eq_true_eq, decide_eq_false_iff_not, Bool.and_eq_true, Bool.or_eq_true, Bool.and_eq_false_iff, Bool.or_eq_false_iff, Bool.not_eq_true', Bool.not_eq_false', beq_iff_eq, bne_iff_ne, ne_eq, Decidable.not_not] at hc1
      refine CW.seq (fun K22 h22 => ?_)
      refine CW.region ?_
      refine r_move rfl ?_
      refine r_not rfl rfl ?_
      refine r_assign rfl ?_
      refine LW.nil ?_
      refine thenE_norm (h22 _ _ ?_); clear h22; try clear K22
      refine CW.condT rfl (by first | rfl | (simp only [decide_eq_true_eq, decide_eq_false_iff_not, Bool.and_eq_true, Bool.or_eq_true, Bool.and_eq_false_iff, Bool.or_eq_false_iff, Bool.not_eq_true', Bool.not_eq_false', beq_iff_eq, bne_iff_ne]; omega) | simp_all) ?_
      refine CW.seq (fun K23 h23 => ?_)
      refine CW.region ?_
      refine r_move rfl ?_
      refine r_call rfl Try.call58 (by simp only [List.map_cons, List.map_nil, List.map_toArray, List.toList_toArray, upd_get, ev, Nat.reduceEqDiff, ↓reduceIte] <;> rfl) (copiedK_c _ (SH.rsR H (i := 0) rfl) (hm.up0 (SH.ext H)) (by omega) hs) ?_
      rintro _ w5_1 ⟨v5_1, raws5_1, g5_1, F5_1, rfl, K⟩
      refine ⟨_, rfl, ?_⟩
      replace H := SH.call H K
      clear K
      try dsimp only [replC, List.cons_append, List.nil_append, List.append_nil] at H
      have hm5 : LksA F5_1 raws5_1 ms w5_1 := SH.prop H (i := 2) rfl
      have l5 := All2.len hm5
      have hup5 := all2_upT lkr_key hm5 hup
      have hat5 : atT Lk.name raws n = atT Lk.name raws5_1 n := by rw [all2_lowT lkr_key n hm, all2_lowT lkr_key n hm5]
      have hno5 : ∀ q ∈ raws5_1, Lk.name q ≠ n := fun q hq e => by
        obtain ⟨j, hj⟩ := List.mem_iff_getElem?.1 hq
        obtain ⟨p, hp, hpr⟩ := All2.get hm5 hj
        exact findT_none hmf p (List.mem_of_getElem? hp) (by rw [← hpr.1]; exact e)
      refine r_move rfl ?_
      refine r_move rfl ?_
      refine r_move rfl ?_
      refine r_move rfl ?_
      refine r_add rfl rfl rfl (wr_i64 (by omega) (by omega)) ?_
      refine r_buildQ rfl Try.underlying53 Try.zeroValue53 rfl (pl := [(0, 1), (1, 1), (2, 1), (3, 1)]) (by intro w; simp [go_sem]) (qs := [(0, [_]), (1, [_]), (2, [_])]) (cs := [_, _, _, .slice none 0 0]) ⟨rfl, cells_one (by simp only [upd_get, ev, Nat.reduceEqDiff, ↓reduceIte] <;> rfl) (by first | rfl | exact Rs.oneC (by first | assumption | exact SH.rsR H (by (repeat first | exact At.here | apply At.there); done) | exact SH.rsO H (by (repeat first | exact At.here | apply At.there); done) | exact (Rs.nil : Rs Non _ _ _))), rfl, cells_one (by simp only [upd_get, ev, Nat.reduceEqDiff, ↓reduceIte] <;> rfl) (by first | rfl | exact Rs.oneC (by first | assumption | exact SH.rsR H (by (repeat first | exact At.here | apply At.there); done) | exact SH.rsO H (by (repeat first | exact At.here | apply At.there); done) | exact (Rs.nil : Rs Non _ _ _))), rfl, cells_one (by simp only [upd_get, ev, Nat.reduceEqDiff, ↓reduceIte] <;> rfl) (by first | rfl | exact Rs.oneC (by first | assumption | exact SH.rsR H (by (repeat first | exact At.here | apply At.there); done) | exact SH.rsO H (by (repeat first | exact At.here | apply At.there); done) | exact (Rs.nil : Rs Non _ _ _))), trivial⟩ rfl ?_
      refine r_buildSliceA (vs := [_]) rfl Try.underlying48 Try.sizeOf53 Try.zeroValue53 rfl rfl rfl rfl (by simp only [List.map_cons, List.map_nil, List.toList_toArray, numbered, Nat.reduceAdd, upd_get, ev, Nat.reduceEqDiff, ↓reduceIte] <;> rfl) rfl (by intro v hv; simp only [List.mem_cons, List.not_mem_nil, or_false] at hv; rcases hv with rfl <;> rfl) ?_
      intro b5_8 w5_8 hb5_8 hs5_8 hE5_8 hB5_8
      replace H := SH.call H (SH.fromB hE5_8 hb5_8 hs5_8 hB5_8)
      clear hb5_8 hs5_8 hE5_8 hB5_8
      try dsimp only [replC, List.cons_append, List.nil_append, List.append_nil, agg, cellsL, Value.cells, List.toList_toArray, List.set_cons_zero, List.set_cons_succ, spliceL, List.take_succ_cons, List.take_zero, List.drop_succ_cons, List.drop_zero, List.length_cons, List.length_nil, Nat.reduceAdd, Row.cells, Gr.L, Lk.L] at H
      replace H := SH.row (b := b5_8) (xs := ([⟨n, c, tok + 1, .slice none 0 0⟩] : List Lk)) (n := 1) (cap := 1) H (by (repeat first | exact At.here | apply At.there); done) (by simp only [flat, List.flatMap_cons, List.flatMap_nil, cellsL, agg, List.append_nil, List.cons_append, List.nil_append, List.toList_toArray, Row.cells, Gr.L, Lk.L] <;> rfl) (by intro x hx; first | rfl | (simp at hx; done) | (simp only [List.mem_cons, List.not_mem_nil, or_false] at hx; rcases hx with rfl <;> first | rfl | exact (by first | rfl | assumption | exact Rs.oneC (by first | assumption | exact SH.rsR H (by (repeat first | exact At.here | apply At.there); done) | exact SH.rsO H (by (repeat first | exact At.here | apply At.there); done) | exact (Rs.nil : Rs Non _ _ _)) | (simp only [List.all_cons, List.all_nil, Bool.and_true, Bool.and_eq_true, Row.cells, Gr.L, Lk.L]; (repeat' constructor) <;> first | rfl | assumption | exact Rs.oneC (by first | assumption | exact SH.rsR H (by (repeat first | exact At.here | apply At.there); done) | exact SH.rsO H (by (repeat first | exact At.here | apply At.there); done) | exact (Rs.nil : Rs Non _ _ _)))))) (by rfl) rfl (by decide)
      try dsimp only [replC, List.cons_append, List.nil_append, List.append_nil, agg, cellsL, Value.cells, List.toList_toArray, List.set_cons_zero, List.set_cons_succ, spliceL, List.take_succ_cons, List.take_zero, List.drop_succ_cons, List.drop_zero, List.length_cons, List.length_nil, Nat.reduceAdd, Row.cells, Gr.L, Lk.L] at H
      refine r_call rfl Try.call57 (by simp only [List.map_cons, List.map_nil, List.map_toArray, List.toList_toArray, upd_get, ev, Nat.reduceEqDiff, ↓reduceIte] <;> rfl) (InsK_c (y := ⟨n, c, tok + 1, .slice none 0 0⟩) (atT Lk.name raws n) _ (SH.ow H (i := 1) rfl) (SH.ow H (i := 3) rfl) (fun b h1 h2 => (SH.val H).apart (i := 1) (j := 3) rfl rfl (by decide) (.inl trivial) b h2 h1) (by omega) (by omega)) ?_
      rintro _ w5_9 ⟨v5_9, g5_9, rfl, K⟩
      refine ⟨_, rfl, ?_⟩
      replace H := SH.updO H (i := 1) rfl K
      clear K
      try dsimp only [replC, List.cons_append, List.nil_append, List.append_nil] at H
      refine r_assign rfl ?_
      refine r_assign rfl ?_
      refine r_assign rfl ?_
      refine LW.nil ?_
      refine thenE_norm ?_
      refine cut (K := K23) [10, 11, 12] (fun σ => ?_)
      simp only [setL, keepE, upd_get, ev, Nat.reduceEqDiff, ↓reduceIte]
      refine h23 _ _ ?_; clear h23; try clear K23
      refine CW.ret (blockE_ret (thenE_ret (ret3 Try.results32 (by simp only [upd_get, ev, Nat.reduceEqDiff, ↓reduceIte]; rfl) (by simp only [upd_get, ev, Nat.reduceEqDiff, ↓reduceIte]; rfl) (by simp only [upd_get, ev, Nat.reduceEqDiff, ↓reduceIte]; rfl) ?_)))
      have hput : raws5_1.take (atT Lk.name raws n) ++ [(⟨n, c, tok + 1, .slice none 0 0⟩ : Lk)] ++ raws5_1.drop (atT Lk.name raws n) = putT Lk.name raws5_1 ⟨n, c, tok + 1, .slice none 0 0⟩ := by
        rw [hat5]; exact (putT_out (m := (⟨n, c, tok + 1, .slice none 0 0⟩ : Lk)) hup5 hno5).symm
      have h4 : ¬ 4 ≤ ms.length := by first | omega | (simp at hc1; omega)
      rw [take_new hmf h4]
      have H2 := SH.cast (d := .P F5_1 (LksA F5_1 (raws5_1.take (atT Lk.name raws n) ++ [(⟨n, c, tok + 1, .slice none 0 0⟩ : Lk)] ++ raws5_1.drop (atT Lk.name raws n)) (putT Lm.name ms ⟨n, c, tok + 1, []⟩))) H (i := 2) rfl (fun _ => trivial) (fun b hb => hb) lks_st (fun h => by
        rw [hput]; exact all2_putT lkr_key h ⟨rfl, rfl, rfl, Rs.nil⟩)
      exact ⟨_, _, _, _, rfl, SH.give (SH.sel H2 [1, 2] (by decide) rfl) (List.Sublist.refl _) ⟨trivial, trivial, trivial⟩⟩
theorem cutT {α : Type} {k : α → ByteArray} {l : List α} {i : Nat} {s : α} (h : UpT k l) (hs : l[i]? = some s) : l.take i ++ l.drop (i + 1) = l.filter fun x => !decide (k x = k s) := by
  have hp := part_at hs
  have h1 : ∀ x ∈ l.take i, k x ≠ k s := fun x hx => by
    obtain ⟨j, hj, hjx⟩ := List.mem_take_iff_getElem.1 hx
    exact ltS_ne (h.at (show j < i by omega) (by rw [← hjx, List.getElem?_eq_getElem]) hs)
  have h2 : ∀ x ∈ l.drop (i + 1), k x ≠ k s := fun x hx => by
    obtain ⟨j, hk⟩ := List.mem_iff_getElem?.1 hx
    rw [List.getElem?_drop] at hk
    exact (ltS_ne (h.at (show i < i + 1 + j by omega) hs hk)).symm
  conv => rhs; rw [hp]
  rw [List.filter_append, List.filter_cons, if_neg (by simp), filt_all (l := l.take i) (fun x hx => by simpa using h1 x hx), filt_all (l := l.drop (i + 1)) (fun x hx => by simpa using h2 x hx)]
/-- Locks behind a free, how many tokens are given, and the code. -/
def freeM (ms : List Lm) (n : ByteArray) (c tok : Int) : List Lm × Int × Int :=
  match ms.find? (isT Lm.name n) with
  | none => ([], 0, 6)
  | some k => if k.holder = c then (if k.line = [] then (ms.filter fun x => !decide (x.name = n), 0, 0) else (putT Lm.name ms ⟨k.name, k.line.headD 0, tok + 1, k.line.tail⟩, 1, 0))
    else if c ∈ k.line then (putT Lm.name ms ⟨k.name, k.holder, k.token, k.line.erase c⟩, 0, 0) else ([], 0, 6)
section
variable {ms : List Lm} {n : ByteArray} {c tok : Int} {k : Lm}
theorem free_none (h : ms.find? (isT Lm.name n) = none) : freeM ms n c tok = ([], 0, 6) := by rw [freeM, h]
theorem free_gone (h : ms.find? (isT Lm.name n) = some k) (h1 : k.holder = c) (h2 : k.line = []) : freeM ms n c tok = (ms.filter fun x => !decide (x.name = n), 0, 0) := by rw [freeM, h]; simp only; rw [if_pos h1, if_pos h2]
theorem free_next (h : ms.find? (isT Lm.name n) = some k) (h1 : k.holder = c) (h2 : ¬ k.line = []) : freeM ms n c tok = (putT Lm.name ms ⟨k.name, k.line.headD 0, tok + 1, k.line.tail⟩, 1, 0) := by rw [freeM, h]; simp only; rw [if_pos h1, if_neg h2]
theorem free_leave (h : ms.find? (isT Lm.name n) = some k) (h1 : ¬ k.holder = c) (h2 : c ∈ k.line) : freeM ms n c tok = (putT Lm.name ms ⟨k.name, k.holder, k.token, k.line.erase c⟩, 0, 0) := by rw [freeM, h]; simp only; rw [if_neg h1, if_pos h2]
theorem free_no (h : ms.find? (isT Lm.name n) = some k) (h1 : ¬ k.holder = c) (h2 : ¬ c ∈ k.line) : freeM ms n c tok = ([], 0, 6) := by rw [freeM, h]; simp only; rw [if_neg h1, if_neg h2]
end
set_option maxHeartbeats 16000000 in
theorem FreeK_c {F K : Nat → Prop} {v : Value} {raws : List Lk} {ms : List Lm} (n : ByteArray) (c tok : Int) (w : World) (hv : Rs F w v raws) (hm : LksA K raws ms w) (hn : raws.length ≤ 1000) (hs : shortL ms) (hup : UpT Lm.name ms) (t0 : 0 ≤ tok) (t1 : tok ≤ 1000000) :
    Calls Try.prog 33 #[v, .string n, .int .i64 c, .int .i64 tok] w fun e w' => ∃ (v' : Value) (raws' : List Lk) (g : Option Nat) (F' : Nat → Prop), e = .returned (.tuple #[v', .int .i64 (freeM ms n c tok).2.1, .int .i64 (freeM ms n c tok).2.2]) ∧
      SH Non Non w w' [.O 53 v' raws' g, .P F' (LksA F' raws' (freeM ms n c tok).1)] := by
  have H := (SH.start w).arg hv
  have hupr := all2_upT lkr_key hm hup
  have l1 := All2.len hm
  refine calls_of_CW Try.func33 rfl Try.ntmps33 (Nat.le_of_ble_eq_true rfl) ?_
  simp only [argE, argFrom, Nat.reduceAdd]
  refine CW.seq (fun K1 h1 => ?_)
  refine CW.region ?_
  refine r_assign rfl ?_
  refine r_assign rfl ?_
  refine r_assign rfl ?_
  refine LW.nil ?_
  refine thenE_norm (h1 _ _ ?_); clear h1; try clear K1
  refine CW.seq (fun K2 h2 => ?_)
  refine CW.region ?_
  refine r_move rfl ?_
  refine r_move rfl ?_
  refine r_call rfl Try.call56 (by simp only [List.map_cons, List.map_nil, List.map_toArray, List.toList_toArray, upd_get, ev, Nat.reduceEqDiff, ↓reduceIte] <;> rfl) (placeK_c n _ (SH.rsR H (i := 0) rfl) (by omega) hupr) ?_
  rintro _ w1_2 ⟨rfl, X⟩
  refine ⟨_, rfl, ?_⟩
  replace H := SH.same H X
  clear X
  refine r_move rfl ?_
  refine r_extract rfl (by simp only [upd_get, ev, Nat.reduceEqDiff, ↓reduceIte] <;> rfl) (by simp only [List.getElem?_toArray, List.getElem?_cons_zero, List.getElem?_cons_succ] <;> rfl) ?_
  refine r_extract rfl (by simp only [upd_get, ev, Nat.reduceEqDiff, ↓reduceIte] <;> rfl) (by simp only [List.getElem?_toArray, List.getElem?_cons_zero, List.getElem?_cons_succ] <;> rfl) ?_
  refine r_assign rfl ?_
  refine r_assign rfl ?_
  refine LW.nil ?_
  refine thenE_norm ?_
  refine cut (K := K2) [0, 2, 3, 11, 12] (fun σ => ?_)
  simp only [setL, keepE, upd_get, ev, Nat.reduceEqDiff, ↓reduceIte]
  refine h2 _ _ ?_; clear h2; try clear K2
  refine CW.seq (fun K3 h3 => ?_)
  refine CW.seq (fun K4 h4 => ?_)
  rcases findT_place hupr n with ⟨hin, s, hs0, hc, hf⟩ | ⟨hin, hf, hno⟩
  · rw [hin]
    have hsl := lt_of_get hs0
    obtain ⟨m, hmi, hmn, hmf, hrm⟩ := raw_at hm hup hs0 hc
    have hml := hs m (List.mem_of_getElem? hmi)
    obtain ⟨m1, m2, m3, m4⟩ := m
    dsimp only at hmn hml
    replace hmn := hmn.symm
    subst hmn
    refine CW.region ?_
    refine r_move rfl ?_
    refine r_not rfl rfl ?_
    refine LW.nil ?_
    refine thenE_norm (h4 _ _ ?_); clear h4; try clear K4
    refine CW.condF rfl (by first | rfl | (simp only [decide_eq_true_eq, decide_eq_false_iff_not, Bool.and_eq_true, Bool.or_eq_true, Bool.and_eq_false_iff, Bool.or_eq_false_iff, Bool.not_eq_true', Bool.not_eq_false', beq_iff_eq, bne_iff_ne]; omega) | simp_all) ?_
    refine CW.skip ?_
    refine thenE_norm (h3 _ _ ?_); clear h3; try clear K3
    refine CW.seq (fun K5 h5 => ?_)
    refine CW.region ?_
    refine r_move rfl ?_
    refine r_call rfl Try.call58 (by simp only [List.map_cons, List.map_nil, List.map_toArray, List.toList_toArray, upd_get, ev, Nat.reduceEqDiff, ↓reduceIte] <;> rfl) (copiedK_c _ (SH.rsR H (i := 0) rfl) (hm.up0 (SH.ext H)) (by omega) hs) ?_
    rintro _ w4_1 ⟨v4_1, raws4_1, g4_1, F4_1, rfl, K⟩
    refine ⟨_, rfl, ?_⟩
    replace H := SH.call H K
    clear K
    try dsimp only [replC, List.cons_append, List.nil_append, List.append_nil] at H
    have hm4 : LksA F4_1 raws4_1 ms w4_1 := SH.prop H (i := 2) rfl
    have hup4 := all2_upT lkr_key hm4 hup
    have l4 := All2.len hm4
    have hat4 : atT Lk.name raws n = atT Lk.name raws4_1 n := by rw [all2_lowT lkr_key n hm, all2_lowT lkr_key n hm4]
    obtain ⟨q, hq, hqr⟩ := All2.get' hm4 hmi
    obtain ⟨q1, q2, q3, q4⟩ := q
    obtain ⟨d1, d2, d3, d4⟩ := hqr
    dsimp only at d1 d2 d3 d4
    subst d2 d3
    replace d1 := d1.symm
    subst d1
    have hql : atT Lk.name raws n < raws4_1.length := lt_of_get hq
    have hq7 : raws4_1[((atT Lk.name raws n : Nat) : Int).toNat]? = some ⟨n, q2, q3, q4⟩ := hq
    refine r_assign rfl ?_
    refine LW.nil ?_
    refine thenE_norm (h5 _ _ ?_); clear h5; try clear K5
    refine CW.seq (fun K6 h6 => ?_)
    refine CW.seq (fun K7 h7 => ?_)
    refine CW.region ?_
    refine r_move rfl ?_
    refine r_move rfl ?_
    refine r_indexAddrV rfl Try.underlying48 (by simp only [upd_get, ev, Nat.reduceEqDiff, ↓reduceIte] <;> rfl) rfl (by first | assumption | exact SH.rsR H (by (repeat first | exact At.here | apply At.there); done) | exact SH.rsO H (by (repeat first | exact At.here | apply At.there); done) | exact (Rs.nil : Rs Non _ _ _)) (by exact Try.sizeOf53) (by omega) (by omega) ?_
    refine r_fieldAddrO rfl Try.underlying53 rfl Try.sizeOf3 (by decide) (show _ + 1 = _ from rfl) rfl ?_
    refine r_load rfl Try.isAgg3 rfl (by first | exact Rs.cell (o := 1) (by first | assumption | exact SH.rsR H (by (repeat first | exact At.here | apply At.there); done) | exact SH.rsO H (by (repeat first | exact At.here | apply At.there); done) | exact (Rs.nil : Rs Non _ _ _)) (by assumption) (by rfl) | exact Rs.cell0 (by first | assumption | exact SH.rsR H (by (repeat first | exact At.here | apply At.there); done) | exact SH.rsO H (by (repeat first | exact At.here | apply At.there); done) | exact (Rs.nil : Rs Non _ _ _)) (by assumption) (by rfl) | assumption) ?_
    refine r_move rfl ?_
    refine r_eql rfl rfl rfl ?_
    refine LW.nil ?_
    refine thenE_norm ?_
    refine cut (K := K7) [2, 3, 11, 13, 34] (fun σ => ?_)
    simp only [setL, keepE, upd_get, ev, Nat.reduceEqDiff, ↓reduceIte]
    refine h7 _ _ ?_; clear h7; try clear K7
    refine CW.cond rfl (fun hc2 => ?_) (fun hc2 => ?_)
    · try simp only [decide_eq_true_eq, decide_eq_false_iff_not, Bool.and_eq_true, Bool.or_eq_true, Bool.and_eq_false_iff, Bool.or_eq_false_iff, Bool.not_eq_true', Bool.not_eq_false', beq_iff_eq, bne_iff_ne, ne_eq, Decidable.not_not] at hc2
      refine CW.seq (fun K8 h8 => ?_)
      refine CW.region ?_
      refine r_move rfl ?_
      refine r_move rfl ?_
      refine r_move rfl ?_
      refine r_call rfl Try.call59 (by simp only [List.map_cons, List.map_nil, List.map_toArray, List.toList_toArray, upd_get, ev, Nat.reduceEqDiff, ↓reduceIte] <;> rfl) (passK_c (atT Lk.name raws n) tok _ (SH.ow H (i := 1) rfl) hq d4 (fun b h1 h2 => (SH.val H).apart (i := 1) (j := 2) rfl rfl (by decide) (.inl trivial) b h2 h1) hml t0 t1) ?_
      rintro _ w6_3 ⟨v6_3, r6_3, g6_3, rfl, K⟩
      refine ⟨_, rfl, ?_⟩
      replace H := SH.updO H (i := 1) rfl K
      clear K
      try dsimp only [replC, List.cons_append, List.nil_append, List.append_nil] at H
      refine r_move rfl ?_
      refine r_extract rfl (by simp only [upd_get, ev, Nat.reduceEqDiff, ↓reduceIte] <;> rfl) (by simp only [List.getElem?_toArray, List.getElem?_cons_zero, List.getElem?_cons_succ] <;> rfl) ?_
      refine r_extract rfl (by simp only [upd_get, ev, Nat.reduceEqDiff, ↓reduceIte] <;> rfl) (by simp only [List.getElem?_toArray, List.getElem?_cons_zero, List.getElem?_cons_succ] <;> rfl) ?_
      refine r_assign rfl ?_
      refine r_assign rfl ?_
      refine LW.nil ?_
      refine thenE_norm ?_
      refine cut (K := K8) [14, 15] (fun σ => ?_)
      simp only [setL, keepE, upd_get, ev, Nat.reduceEqDiff, ↓reduceIte]
      refine h8 _ _ ?_; clear h8; try clear K8
      refine CW.seq (fun K9 h9 => ?_)
      refine CW.region ?_
      refine r_move rfl ?_
      refine r_move rfl ?_
      refine r_assign rfl ?_
      refine r_assign rfl ?_
      refine r_assign rfl ?_
      refine LW.nil ?_
      refine thenE_norm (h9 _ _ ?_); clear h9; try clear K9
      refine CW.ret (thenE_ret (ret3 Try.results33 (by simp only [upd_get, ev, Nat.reduceEqDiff, ↓reduceIte]; rfl) (by simp only [upd_get, ev, Nat.reduceEqDiff, ↓reduceIte]; rfl) (by simp only [upd_get, ev, Nat.reduceEqDiff, ↓reduceIte]; rfl) ?_))
      have hq0 : raws4_1[atT Lk.name raws4_1 n]? = some ⟨n, q2, q3, q4⟩ := by rw [← hat4]; exact hq
      by_cases hz : m4 = []
      · rw [free_gone hmf hc2 hz]
        simp only [if_pos hz] at H ⊢
        have hcut : raws4_1.take (atT Lk.name raws n) ++ raws4_1.drop (atT Lk.name raws n + 1) = raws4_1.filter fun x => !decide (x.name = n) := cutT hup4 hq
        have H2 := SH.cast (d := .P F4_1 (LksA F4_1 (raws4_1.take (atT Lk.name raws n) ++ raws4_1.drop (atT Lk.name raws n + 1)) (ms.filter fun x => !decide (x.name = n)))) H (i := 3) rfl (fun _ => trivial) (fun b hb => hb) lks_st (fun h => by
          rw [hcut]; exact all2_filtT lkr_key (fun z => !decide (z = n)) h)
        exact ⟨_, _, _, _, rfl, SH.give (SH.sel H2 [1, 3] (by decide) rfl) (List.Sublist.refl _) ⟨trivial, trivial, trivial⟩⟩
      · rw [free_next hmf hc2 hz]
        simp only [if_neg hz] at H ⊢
        have hput : raws4_1.set (atT Lk.name raws n) (⟨n, m4.headD 0, tok + 1, r6_3⟩ : Lk) = putT Lk.name raws4_1 ⟨n, m4.headD 0, tok + 1, r6_3⟩ := by
          rw [hat4]
          exact (putT_in (m := (⟨n, m4.headD 0, tok + 1, r6_3⟩ : Lk)) (s := ⟨n, q2, q3, q4⟩) hup4 hq0 rfl).symm
        have H2 := SH.absorb (A' := LksA _ (raws4_1.set (atT Lk.name raws n) (⟨n, m4.headD 0, tok + 1, r6_3⟩ : Lk)) (putT Lm.name ms ⟨n, m4.headD 0, tok + 1, m4.tail⟩)) (SH.sel H [3, 2, 0, 1] (by decide) rfl) trivial lks_st (fun h k => by
          rw [hput]
          exact all2_putT lkr_key (LksA.mono h fun b hb => .inl hb) ⟨rfl, rfl, rfl, (Ow.rs k).mono fun b _ hb => .inr hb⟩)
        exact ⟨_, _, _, _, rfl, SH.give (SH.sel H2 [2, 0] (by decide) rfl) (List.Sublist.refl _) ⟨trivial, trivial, trivial⟩⟩
    · try simp only [decide_eq_true_eq, decide_eq_false_iff_not, Bool.and_eq_true, Bool.or_eq_true, Bool.and_eq_false_iff, Bool.or_eq_false_iff, Bool.not_eq_true', Bool.not_eq_false', beq_iff_eq, bne_iff_ne, ne_eq, Decidable.not_not] at hc2
      refine CW.skip ?_
      refine thenE_norm (h6 _ _ ?_); clear h6; try clear K6
      refine CW.seq (fun K10 h10 => ?_)
      refine CW.region ?_
      refine r_move rfl ?_
      refine r_move rfl ?_
      refine r_indexAddrV rfl Try.underlying48 (by simp only [upd_get, ev, Nat.reduceEqDiff, ↓reduceIte] <;> rfl) rfl (by first | assumption | exact SH.rsR H (by (repeat first | exact At.here | apply At.there); done) | exact SH.rsO H (by (repeat first | exact At.here | apply At.there); done) | exact (Rs.nil : Rs Non _ _ _)) (by exact Try.sizeOf53) (by omega) (by omega) ?_
      refine r_fieldAddrO rfl Try.underlying53 rfl Try.sizeOf22 (by decide) (show _ + 3 = _ from rfl) rfl ?_
      refine r_load rfl Try.isAgg22 rfl (by first | exact Rs.cell (o := 3) (by first | assumption | exact SH.rsR H (by (repeat first | exact At.here | apply At.there); done) | exact SH.rsO H (by (repeat first | exact At.here | apply At.there); done) | exact (Rs.nil : Rs Non _ _ _)) (by assumption) (by rfl) | exact Rs.cell0 (by first | assumption | exact SH.rsR H (by (repeat first | exact At.here | apply At.there); done) | exact SH.rsO H (by (repeat first | exact At.here | apply At.there); done) | exact (Rs.nil : Rs Non _ _ _)) (by assumption) (by rfl) | assumption) ?_
      refine r_move rfl ?_
      refine r_call rfl Try.call20 (by simp only [List.map_cons, List.map_nil, List.map_toArray, List.toList_toArray, upd_get, ev, Nat.reduceEqDiff, ↓reduceIte] <;> rfl) (Leave_c c _ (by exact d4.up0 (Ext.refl _ _)) (by omega)) ?_
      rintro _ w8_6 ⟨v8_6, g8_6, rfl, K⟩
      refine ⟨_, rfl, ?_⟩
      replace H := SH.call H K
      clear K
      try dsimp only [replC, List.cons_append, List.nil_append, List.append_nil] at H
      refine r_move rfl ?_
      refine r_extract rfl (by simp only [upd_get, ev, Nat.reduceEqDiff, ↓reduceIte] <;> rfl) (by simp only [List.getElem?_toArray, List.getElem?_cons_zero, List.getElem?_cons_succ] <;> rfl) ?_
      refine r_extract rfl (by simp only [upd_get, ev, Nat.reduceEqDiff, ↓reduceIte] <;> rfl) (by simp only [List.getElem?_toArray, List.getElem?_cons_zero, List.getElem?_cons_succ] <;> rfl) ?_
      refine r_assign rfl ?_
      refine r_assign rfl ?_
      refine LW.nil ?_
      refine thenE_norm ?_
      refine cut (K := K10) [11, 13, 16, 17] (fun σ => ?_)
      simp only [setL, keepE, upd_get, ev, Nat.reduceEqDiff, ↓reduceIte]
      refine h10 _ _ ?_; clear h10; try clear K10
      refine CW.seq (fun K11 h11 => ?_)
      refine CW.seq (fun K12 h12 => ?_)
      refine CW.region ?_
      refine r_move rfl ?_
      refine r_not rfl rfl ?_
      refine LW.nil ?_
      refine thenE_norm (h12 _ _ ?_); clear h12; try clear K12
      refine CW.cond rfl (fun hc3 => ?_) (fun hc3 => ?_)
      · try simp only [decide_eq_true_eq, decide_eq_false_iff_not, Bool.and_eq_true, Bool.or_eq_true, Bool.and_eq_false_iff, Bool.or_eq_false_iff, Bool.not_eq_true', Bool.not_eq_false', beq_iff_eq, bne_iff_ne, ne_eq, Decidable.not_not] at hc3
        refine CW.seq (fun K13 h13 => ?_)
        refine CW.region ?_
        refine r_assign rfl ?_
        refine r_assign rfl ?_
        refine r_assign rfl ?_
        refine LW.nil ?_
        refine thenE_norm (h13 _ _ ?_); clear h13; try clear K13
        refine CW.ret (thenE_ret (ret3 Try.results33 (by simp only [upd_get, ev, Nat.reduceEqDiff, ↓reduceIte]; rfl) (by simp only [upd_get, ev, Nat.reduceEqDiff, ↓reduceIte]; rfl) (by simp only [upd_get, ev, Nat.reduceEqDiff, ↓reduceIte]; rfl) ?_))
        rw [free_no hmf hc2 (by simpa using hc3)]
        exact ⟨_, _, _, _, rfl, SH.give (addLs (SH.sel (H.addO (α := Lk) 53) [4] (by decide) rfl)) (List.Sublist.refl _) ⟨trivial, trivial, trivial⟩⟩
      · try simp only [decide_eq_true_eq, decide_eq_false_iff_not, Bool.and_eq_true, Bool.or_eq_true, Bool.and_eq_false_iff, Bool.or_eq_false_iff, Bool.not_eq_true', Bool.not_eq_false', beq_iff_eq, bne_iff_ne, ne_eq, Decidable.not_not] at hc3
        refine CW.skip ?_
        refine thenE_norm (h11 _ _ ?_); clear h11; try clear K11
        refine CW.seq (fun K14 h14 => ?_)
        refine CW.region ?_
        refine r_move rfl ?_
        refine r_move rfl ?_
        refine r_move rfl ?_
        refine r_indexAddrV rfl Try.underlying48 (by simp only [upd_get, ev, Nat.reduceEqDiff, ↓reduceIte] <;> rfl) rfl (by first | assumption | exact SH.rsR H (by (repeat first | exact At.here | apply At.there); done) | exact SH.rsO H (by (repeat first | exact At.here | apply At.there); done) | exact (Rs.nil : Rs Non _ _ _)) (by exact Try.sizeOf53) (by omega) (by omega) ?_
        refine r_fieldAddrO rfl Try.underlying53 rfl Try.sizeOf22 (by decide) (show _ + 3 = _ from rfl) rfl ?_
        refine s_storeR (o := 3) (x1 := (⟨n, q2, q3, v8_6⟩ : Lk)) H Try.sizeOf22 rfl (by simp only [upd_get, ev, Nat.reduceEqDiff, ↓reduceIte] <;> rfl) (by first | rfl | assumption | exact Rs.oneC (by first | assumption | exact SH.rsR H (by (repeat first | exact At.here | apply At.there); done) | exact SH.rsO H (by (repeat first | exact At.here | apply At.there); done) | exact (Rs.nil : Rs Non _ _ _)) | (simp only [List.all_cons, List.all_nil, Bool.and_true, Bool.and_eq_true, Row.cells, Gr.L, Lk.L]; (repeat' constructor) <;> first | rfl | assumption | exact Rs.oneC (by first | assumption | exact SH.rsR H (by (repeat first | exact At.here | apply At.there); done) | exact SH.rsO H (by (repeat first | exact At.here | apply At.there); done) | exact (Rs.nil : Rs Non _ _ _)))) (by (repeat first | exact At.here | apply At.there); done) hq7 (by rfl) (by rfl) (by rfl) (by first | rfl | assumption | exact Rs.oneC (by first | assumption | exact SH.rsR H (by (repeat first | exact At.here | apply At.there); done) | exact SH.rsO H (by (repeat first | exact At.here | apply At.there); done) | exact (Rs.nil : Rs Non _ _ _)) | (simp only [List.all_cons, List.all_nil, Bool.and_true, Bool.and_eq_true, Row.cells, Gr.L, Lk.L]; (repeat' constructor) <;> first | rfl | assumption | exact Rs.oneC (by first | assumption | exact SH.rsR H (by (repeat first | exact At.here | apply At.there); done) | exact SH.rsO H (by (repeat first | exact At.here | apply At.there); done) | exact (Rs.nil : Rs Non _ _ _)))) ?_
        clear H
        intro w11_5 H
        try dsimp only [replC, List.cons_append, List.nil_append, List.append_nil, agg, cellsL, Value.cells, List.toList_toArray, List.set_cons_zero, List.set_cons_succ, spliceL, List.take_succ_cons, List.take_zero, List.drop_succ_cons, List.drop_zero, List.length_cons, List.length_nil, Nat.reduceAdd, Row.cells, Gr.L, Lk.L] at H
        refine LW.nil ?_
        refine thenE_norm ?_
        refine cut (K := K14) [13] (fun σ => ?_)
        simp only [setL, keepE, upd_get, ev, Nat.reduceEqDiff, ↓reduceIte]
        refine h14 _ _ ?_; clear h14; try clear K14
        refine CW.seq (fun K15 h15 => ?_)
        refine CW.region ?_
        refine r_move rfl ?_
        refine r_assign rfl ?_
        refine r_assign rfl ?_
        refine r_assign rfl ?_
        refine LW.nil ?_
        refine thenE_norm (h15 _ _ ?_); clear h15; try clear K15
        refine CW.ret (ret3 Try.results33 (by simp only [upd_get, ev, Nat.reduceEqDiff, ↓reduceIte]; rfl) (by simp only [upd_get, ev, Nat.reduceEqDiff, ↓reduceIte]; rfl) (by simp only [upd_get, ev, Nat.reduceEqDiff, ↓reduceIte]; rfl) ?_)
        have hq0 : raws4_1[atT Lk.name raws4_1 n]? = some ⟨n, q2, q3, q4⟩ := by rw [← hat4]; exact hq
        have hput : raws4_1.set (atT Lk.name raws n) (⟨n, q2, q3, v8_6⟩ : Lk) = putT Lk.name raws4_1 ⟨n, q2, q3, v8_6⟩ := by
          rw [hat4]
          exact (putT_in (m := (⟨n, q2, q3, v8_6⟩ : Lk)) (s := ⟨n, q2, q3, q4⟩) hup4 hq0 rfl).symm
        rw [free_leave hmf hc2 (by simpa using hc3)]
        have H2 := SH.absorb (A' := LksA _ (raws4_1.set (atT Lk.name raws n) (⟨n, q2, q3, v8_6⟩ : Lk)) (putT Lm.name ms ⟨n, q2, q3, m4.erase c⟩)) (SH.sel H [2, 3, 0, 1] (by decide) rfl) trivial lks_st (fun h k => by
          rw [hput]
          exact all2_putT lkr_key (LksA.mono h fun b hb => .inl hb) ⟨rfl, rfl, rfl, (Ow.rs k).mono fun b _ hb => .inr hb⟩)
        exact ⟨_, _, _, _, rfl, SH.give (SH.sel H2 [2, 0] (by decide) rfl) (List.Sublist.refl _) ⟨trivial, trivial, trivial⟩⟩
  · rw [hin]
    have hmf := none_raw hm hf
    refine CW.region ?_
    refine r_move rfl ?_
    refine r_not rfl rfl ?_
    refine LW.nil ?_
    refine thenE_norm (h4 _ _ ?_); clear h4; try clear K4
    refine CW.condT rfl (by first | rfl | (simp only [decide_eq_true_eq, decide_eq_false_iff_not, Bool.and_eq_true, Bool.or_eq_true, Bool.and_eq_false_iff, Bool.or_eq_false_iff, Bool.not_eq_true', Bool.not_eq_false', beq_iff_eq, bne_iff_ne]; omega) | simp_all) ?_
    refine CW.seq (fun K16 h16 => ?_)
    refine CW.region ?_
    refine r_assign rfl ?_
    refine r_assign rfl ?_
    refine r_assign rfl ?_
    refine LW.nil ?_
    refine thenE_norm (h16 _ _ ?_); clear h16; try clear K16
    refine CW.ret (thenE_ret (ret3 Try.results33 (by simp only [upd_get, ev, Nat.reduceEqDiff, ↓reduceIte]; rfl) (by simp only [upd_get, ev, Nat.reduceEqDiff, ↓reduceIte]; rfl) (by simp only [upd_get, ev, Nat.reduceEqDiff, ↓reduceIte]; rfl) ?_))
    rw [free_none hmf]
    exact ⟨_, _, _, _, rfl, SH.give (addLs (SH.sel (H.addO (α := Lk) 53) [1] (by decide) rfl)) (List.Sublist.refl _) ⟨trivial, trivial, trivial⟩⟩
end Go.Proofs.Ytaggdlbjgjagbaa
