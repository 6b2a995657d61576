/-
  The walks of layer 14's functions, the third part: the document's acceptor.
-/
import Derived.Test.YtalieccfdmokmaaVAcB
namespace Go.V
set_option linter.unusedSimpArgs false
set_option linter.unusedVariables false
open Go.RowKit
/-- What is looked at, and what one more chunk tells, are one. -/
theorem SH.blend {U G : Nat → Prop} {w0 w : World} {L : List Ch} {F : Nat → Prop} {A A' : World → Prop} {c : Ch} (H : SH U G w0 w (.I F A :: c :: L)) (hc : ¬ c.own) (hst : Ch.St (fun b => F b ∨ c.F b) A') (hA : A w → c.A w → A' w) : SH U G w0 w (.I (fun b => F b ∨ c.F b) A' :: L) := by
  have h1 := H.val.1 (.I F A) (by simp)
  have h2 := H.val.1 c (by simp)
  have hp := List.pairwise_cons.1 H.val.2
  have hp2 := List.pairwise_cons.1 hp.2
  refine ⟨H.ext, Val.cons ⟨hA h1.holds h2.holds, hst, fun b hb => hb.elim (h1.lt b) (h2.lt b), fun h => h.elim, fun b hb => hb.elim (h1.imm b) (h2.imm b)⟩
    ⟨fun d hd => H.val.1 d (by simp [hd]), hp2.2⟩ fun d hd hod b hb hb2 => ?_⟩
  rcases hod with hod | hod
  · exact hod
  · rcases hb with hb | hb
    · exact hp.1 d (by simp [hd]) (.inr hod) b hb hb2
    · exact hp2.1 d hd (.inr hod) b hb hb2
theorem SH.addI {U G : Nat → Prop} {w0 w : World} {L : List Ch} {A : World → Prop} (H : SH U G w0 w L) (hst : Ch.St Non A) (hA : A w) : SH U G w0 w (L ++ [.I Non A]) :=
  H.call ⟨Ext.refl _ _, Val.one ⟨hA, hst, fun b h => h.elim, fun h => h.elim, fun b h => h.elim⟩⟩
section
variable {α : Type} {k : α → Int} {l : List α} {n : Int} {m s : α}
/-- A thing put among things that rise, as one goes along them (another way). -/
def ins2S (k : α → Int) (m : α) (s : Bool × List α) (x : α) : Bool × List α :=
  let t := if s.1 = false ∧ k m ≤ k x then (true, s.2 ++ [m]) else s
  if k x ≠ k m then (t.1, t.2 ++ [x]) else t
def ins2P (k : α → Int) (m : α) (l : List α) (i : Nat) : Bool × List α := (l.take i).foldl (ins2S k m) (false, [])
theorem ins2P_0 : ins2P k m l 0 = (false, []) := rfl
theorem ins2P_succ {i : Nat} (hx : l[i]? = some s) : ins2P k m l (i + 1) = ins2S k m (ins2P k m l i) s := by
  rw [ins2P, V.take_snoc hx, List.foldl_append]; rfl
theorem ins2_lt : ∀ {A acc : List α}, (∀ x ∈ A, k x < k m) → A.foldl (ins2S k m) (false, acc) = (false, acc ++ A)
  | [], acc, _ => by simp
  | a :: A, acc, h => by
    have h1 := h a (by simp)
    have e : ins2S k m (false, acc) a = (false, acc ++ [a]) := by
      rw [ins2S, if_neg (show ¬ ((false : Bool) = false ∧ k m ≤ k a) from fun h => by omega), if_pos (show k a ≠ k m by omega)]
    rw [List.foldl_cons, e, ins2_lt (fun x hx => h x (by simp [hx])), List.append_assoc]; rfl
theorem ins2_gt : ∀ {B acc : List α}, (∀ x ∈ B, k m < k x) → B.foldl (ins2S k m) (true, acc) = (true, acc ++ B)
  | [], acc, _ => by simp
  | b :: B, acc, h => by
    have h1 := h b (by simp)
    have e : ins2S k m (true, acc) b = (true, acc ++ [b]) := by
      rw [ins2S, if_neg (show ¬ ((true : Bool) = false ∧ k m ≤ k b) from fun h => by cases h.1), if_pos (show k b ≠ k m by omega)]
    rw [List.foldl_cons, e, ins2_gt (fun x hx => h x (by simp [hx])), List.append_assoc]; rfl
theorem ins2P_end (h : UpK k l) : (if (ins2P k m l l.length).1 = true then (ins2P k m l l.length).2 else (ins2P k m l l.length).2 ++ [m]) = putK k l m := by
  rw [ins2P, List.take_length]
  rcases findK_place (n := k m) h with ⟨-, s, hs, hc, -⟩ | ⟨-, -, hno⟩
  · obtain ⟨h1, h2⟩ := partK_in h hs hc
    rw [putK_split [s] (by rw [List.append_assoc]; exact part_at hs) (fun x hx => by rw [List.mem_singleton] at hx; rw [hx]; exact hc) h1 h2]
    have e : ins2S k m (false, [] ++ l.take (atK k l (k m))) s = (true, [] ++ l.take (atK k l (k m)) ++ [m]) := by
      rw [ins2S, if_pos (show (false : Bool) = false ∧ k m ≤ k s from ⟨rfl, by omega⟩), if_neg (show ¬ (k s ≠ k m) by omega)]
    conv => lhs; rw [part_at hs]
    rw [List.foldl_append, ins2_lt h1, List.foldl_cons, e, ins2_gt h2]
    simp
  · obtain ⟨h1, h2⟩ := partK_out h hno
    rw [putK_out h hno]
    conv => lhs; rw [← List.take_append_drop (atK k l (k m)) l]
    rw [List.foldl_append, ins2_lt h1]
    generalize l.drop (atK k l (k m)) = B at h2
    match B, h2 with
    | [], _ => simp
    | b :: B, h2 =>
      have h3 := h2 b (by simp)
      have e : ins2S k m (false, [] ++ l.take (atK k l (k m))) b = (true, [] ++ l.take (atK k l (k m)) ++ [m] ++ [b]) := by
        rw [ins2S, if_pos (show (false : Bool) = false ∧ k m ≤ k b from ⟨rfl, by omega⟩), if_pos (show k b ≠ k m by omega)]
      rw [List.foldl_cons, e, ins2_gt (fun x hx => h2 x (by simp [hx]))]
      simp
theorem ins2P_len : ∀ (i : Nat), (ins2P k m l i).2.length ≤ 2 * i
  | 0 => by simp [ins2P_0]
  | i + 1 => by
    have ih := ins2P_len i
    cases hx : l[i]? with
    | none =>
      have : l.length ≤ i := by simpa using hx
      rw [ins2P, List.take_of_length_le (by omega)]
      rw [ins2P, List.take_of_length_le (by omega)] at ih
      omega
    | some s =>
      rw [ins2P_succ hx, ins2S]
      split <;> split <;> simp <;> omega
end
end Go.V
namespace Go.Proofs.Ytalieccfdmokmaa
set_option linter.unusedSimpArgs false
set_option linter.unusedVariables false
set_option maxRecDepth 20000
open Go.V Go.RowKit Go.ChangeShapes Go.WideShapes

/-- The document's acceptor. -/
def RAcA (p : Nat) (b d : Int) (raws : List Vt) (FN : Nat → Prop) (w : World) : Prop :=
  ∃ v g, ObjA FN w [.B p 84 [.int .i64 b, .int .i64 d, v], .O 61 v raws g]
theorem rac_st {p : Nat} {b d : Int} {raws : List Vt} {FN : Nat → Prop} : Ch.St FN (RAcA p b d raws FN) := fun V w w' h e hd => by
  obtain ⟨v, g, h⟩ := h
  exact ⟨v, g, h.up e hd⟩
theorem RAcA.mkL {U G : Nat → Prop} {w0 w : World} {L : List Ch} {p : Nat} {b d : Int} {v : Value} {raws : List Vt} {g : Option Nat}
    (H : SH U G w0 w ([.B p 84 [.int .i64 b, .int .i64 d, v], .O 61 v raws g] ++ L)) : ∃ FN, SH U G w0 w (.P FN (RAcA p b d raws FN) :: L) :=
  ⟨_, SH.pack (A := RAcA p b d raws (foot [.B p 84 [.int .i64 b, .int .i64 d, v], .O 61 v raws g])) H ⟨trivial, trivial, trivial⟩ rac_st (fun h => ⟨v, g, h⟩)⟩
theorem RAcA.mk {U G : Nat → Prop} {w0 w : World} {p : Nat} {b d : Int} {v : Value} {raws : List Vt} {g : Option Nat}
    (H : SH U G w0 w [.B p 84 [.int .i64 b, .int .i64 d, v], .O 61 v raws g]) : ∃ FN, SH U Non w0 w [.P FN (RAcA p b d raws FN)] :=
  have ⟨FN, K⟩ := RAcA.mkL (L := []) H
  ⟨FN, SH.give (M := [.P _ _]) K (List.Sublist.refl _) ⟨trivial, trivial⟩⟩
theorem RPromise_c {p : Nat} {s : AcS} {raws : List Vt} {FN : Nat → Prop} (b : Int) (w : World) (hN : RAcA p s.ballot s.done raws FN w) :
    Calls Try.prog 49 #[.pointer (some ⟨p, 0, none⟩), .int .i64 b] w fun e w' => ∃ FN', e = .returned (.int .i64 (promM s b).2) ∧ SH FN Non w w' [.P FN' (RAcA p (promM s b).1.ballot (promM s b).1.done raws FN')] := by
  obtain ⟨v, g, hA⟩ := hN
  have H := SH.obj (G := Any) hA
  obtain ⟨s1, s2, s3⟩ := s
  dsimp only at H
  refine calls_of_CW Try.func49 rfl Try.ntmps49 (Nat.le_of_ble_eq_true rfl) ?_
  simp only [argE, argFrom, Nat.reduceAdd]
  refine CW.seq (fun K1 h1 => ?_)
  refine CW.region ?_
  refine r_assign rfl ?_
  refine LW.nil ?_
  refine thenE_norm (h1 _ _ ?_); clear h1; try clear K1
  refine CW.seq (fun K2 h2 => ?_)
  refine CW.block ?_
  refine CW.seq (fun K3 h3 => ?_)
  refine CW.region ?_
  refine r_move rfl ?_
  refine r_call rfl Try.call79 (by simp only [List.map_cons, List.map_nil, List.map_toArray, List.toList_toArray, upd_get, ev, Nat.reduceEqDiff, ↓reduceIte] <;> rfl) (high12_c _ _ _) ?_
  rintro _ _ ⟨rfl, rfl⟩
  refine ⟨_, rfl, ?_⟩
  refine r_not rfl rfl ?_
  refine r_assign rfl ?_
  refine LW.nil ?_
  refine thenE_norm (h3 _ _ ?_); clear h3; try clear K3
  refine CW.cond rfl (fun hc1 => ?_) (fun hc1 => ?_)
  · try simp only [decide_eq_true_eq, decide_eq_false_iff_not, Bool.and_eq_true, Bool.or_eq_true, Bool.and_eq_false_iff, Bool.or_eq_false_iff, Bool.not_eq_true', Bool.not_eq_false', beq_iff_eq, bne_iff_ne, ne_eq, Decidable.not_not] at hc1
    refine CW.seq (fun K4 h4 => ?_)
    refine CW.region ?_
    refine r_assign rfl ?_
    refine LW.nil ?_
    refine thenE_norm (h4 _ _ ?_); clear h4; try clear K4
    refine CW.ret (blockE_ret (thenE_ret (ret1 Try.results49 (by simp only [upd_get, ev, Nat.reduceEqDiff, ↓reduceIte]; rfl) ?_)))
    rw [promM, if_neg (by rw [hc1]; decide)]
    obtain ⟨FN', K⟩ := RAcA.mk (SH.sel H [0, 1] (by decide) (by rfl))
    exact ⟨_, rfl, K⟩
  · try simp only [decide_eq_true_eq, decide_eq_false_iff_not, Bool.and_eq_true, Bool.or_eq_true, Bool.and_eq_false_iff, Bool.or_eq_false_iff, Bool.not_eq_true', Bool.not_eq_false', beq_iff_eq, bne_iff_ne, ne_eq, Decidable.not_not] at hc1
    refine CW.seq (fun K5 h5 => ?_)
    refine CW.region ?_
    refine r_move rfl ?_
    refine r_move rfl ?_
    refine r_nilCheck rfl rfl ?_
    refine r_fieldAddrO rfl Try.underlying84 rfl Try.sizeOf3 (by decide) (show _ = 0 from rfl) rfl ?_
    refine r_load rfl Try.isAgg3 rfl (by first | exact SH.cellB H (by (repeat first | exact At.here | apply At.there); done) (by rfl) | exact SH.cellI H (by (repeat first | exact At.here | apply At.there); done) (by rfl) | assumption) ?_
    refine r_lss rfl rfl rfl ?_
    refine r_assign rfl ?_
    refine LW.nil ?_
    refine thenE_norm ?_
    refine cut (K := K5) [0, 1, 9] (fun σ => ?_)
    simp only [setL, keepE, upd_get, ev, Nat.reduceEqDiff, ↓reduceIte]
    refine h5 _ _ ?_; clear h5; try clear K5
    refine CW.cond rfl (fun hc2 => ?_) (fun hc2 => ?_)
    · try simp only [decide_eq_true_eq, decide_eq_false_iff_not, Bool.and_eq_true, Bool.or_eq_true, Bool.and_eq_false_iff, Bool.or_eq_false_iff, Bool.not_eq_true', Bool.not_eq_false', beq_iff_eq, bne_iff_ne, ne_eq, Decidable.not_not] at hc2
      refine CW.seq (fun K6 h6 => ?_)
      refine CW.region ?_
      refine r_assign rfl ?_
      refine LW.nil ?_
      refine thenE_norm (h6 _ _ ?_); clear h6; try clear K6
      refine CW.ret (blockE_ret (thenE_ret (ret1 Try.results49 (by simp only [upd_get, ev, Nat.reduceEqDiff, ↓reduceIte]; rfl) ?_)))
      rw [promM, if_pos hc1, if_pos hc2]
      obtain ⟨FN', K⟩ := RAcA.mk (SH.sel H [0, 1] (by decide) (by rfl))
      exact ⟨_, rfl, K⟩
    · try simp only [decide_eq_true_eq, decide_eq_false_iff_not, Bool.and_eq_true, Bool.or_eq_true, Bool.and_eq_false_iff, Bool.or_eq_false_iff, Bool.not_eq_true', Bool.not_eq_false', beq_iff_eq, bne_iff_ne, ne_eq, Decidable.not_not] at hc2
      refine CW.skip ?_
      refine blockE_norm ?_
      refine thenE_norm (h2 _ _ ?_); clear h2; try clear K2
      refine CW.seq (fun K7 h7 => ?_)
      refine CW.region ?_
      refine r_move rfl ?_
      refine r_move rfl ?_
      refine r_nilCheck rfl rfl ?_
      refine r_fieldAddrO rfl Try.underlying84 rfl Try.sizeOf3 (by decide) (show _ = 0 from rfl) rfl ?_
      refine s_store H Try.sizeOf3 rfl (by simp only [upd_get, ev, Nat.reduceEqDiff, ↓reduceIte] <;> rfl) (by first | rfl | assumption | exact Rs.oneC (by first | assumption | exact SH.rsR H (by (repeat first | exact At.here | apply At.there); done) | exact SH.rsO H (by (repeat first | exact At.here | apply At.there); done) | exact (Rs.nil : Rs Non _ _ _)) | (simp only [List.all_cons, List.all_nil, Bool.and_true, Bool.and_eq_true, Row.cells, Cm.L, Rq.L, Tp.L, Bat.L, Vt.L]; (repeat' constructor) <;> first | rfl | assumption | exact Rs.oneC (by first | assumption | exact SH.rsR H (by (repeat first | exact At.here | apply At.there); done) | exact SH.rsO H (by (repeat first | exact At.here | apply At.there); done) | exact (Rs.nil : Rs Non _ _ _)))) (by (repeat first | exact At.here | apply At.there); done) (by first | (simp; done) | decide | omega) ?_
      clear H
      intro w5_4 H
      try dsimp only [replC, List.cons_append, List.nil_append, List.append_nil, agg, cellsL, Value.cells, List.toList_toArray, List.set_cons_zero, List.set_cons_succ, spliceL, List.take_succ_cons, List.take_zero, List.drop_succ_cons, List.drop_zero, List.length_cons, List.length_nil, Nat.reduceAdd, Row.cells, Cm.L, Rq.L, Tp.L, Bat.L, Vt.L] at H
      refine LW.nil ?_
      refine thenE_norm (h7 _ _ ?_); clear h7; try clear K7
      refine CW.seq (fun K8 h8 => ?_)
      refine CW.region ?_
      refine r_assign rfl ?_
      refine LW.nil ?_
      refine thenE_norm (h8 _ _ ?_); clear h8; try clear K8
      refine CW.ret (ret1 Try.results49 (by simp only [upd_get, ev, Nat.reduceEqDiff, ↓reduceIte]; rfl) ?_)
      rw [promM, if_pos hc1, if_neg hc2]
      obtain ⟨FN', K⟩ := RAcA.mk (SH.sel H [0, 1] (by decide) (by rfl))
      exact ⟨_, rfl, K⟩
/-- The raw votes behind what is accepted. -/
def accR (s : AcS) (raws : List Vt) (m : Vm) (r : Vt) : List Vt := if (accM s m).2 = 0 then putK Vt.slot raws r else raws
theorem accM_l (s : AcS) (m : Vm) : (accM s m).1.l = if (accM s m).2 = 0 then putK Vm.slot s.l m else s.l := by
  unfold accM
  split
  · split
    · rfl
    · split <;> rfl
  · rfl
theorem accR_r {K : Nat → Prop} {w : World} {s : AcS} {raws : List Vt} {m : Vm} {r : Vt} (h : VtsA K raws s.l w) (hr : VtR K w r m) : VtsA K (accR s raws m r) (accM s m).1.l w := by
  rw [accR, accM_l]
  split
  · exact all2_put vtr_key h hr
  · exact h
set_option maxHeartbeats 16000000 in
theorem RAccept_c {F2 : Nat → Prop} {p : Nat} {s : AcS} {raws : List Vt} {FN : Nat → Prop} (b sl : Int) (x : Bat) {rs : List Rq} (w : World) (hN : RAcA p s.ballot s.done raws FN w) (hb : Rs F2 w x.reqs rs) (hd : ∀ b, F2 b → ¬ FN b) (hup : UpK Vt.slot raws) (hn : raws.length ≤ 1000) (q0 : 0 ≤ s.done) (q1 : s.done ≤ 2305843009213693952) :
    Calls Try.prog 50 #[.pointer (some ⟨p, 0, none⟩), .int .i64 b, .int .i64 sl, agg x] w fun e w' => ∃ FN', e = .returned (.int .i64 (accM s (vmB sl b x rs)).2) ∧ SH FN Non w w' [.P FN' (RAcA p (accM s (vmB sl b x rs)).1.ballot (accM s (vmB sl b x rs)).1.done (accR s raws (vmB sl b x rs) ⟨sl, b, x⟩) FN')] := by
  obtain ⟨v, g, hA⟩ := hN
  obtain ⟨x1, x2, ⟨x3, x4⟩, x5, x6⟩ := x
  dsimp only at hb
  have H := SH.argU (SH.obj (G := Any) hA) hb hd
  obtain ⟨s1, s2, s3⟩ := s
  dsimp only at H q0 q1
  have ho6 : oneC x6 = true := Rs.oneC hb
  refine calls_of_CW Try.func50 rfl Try.ntmps50 (Nat.le_of_ble_eq_true rfl) ?_
  simp only [argE, argFrom, Nat.reduceAdd]
  refine CW.seq (fun K1 h1 => ?_)
  refine CW.region ?_
  refine s_box H rfl (by simp only [upd_get, ev, Nat.reduceEqDiff, ↓reduceIte] <;> rfl) rfl ?_
  clear H
  intro b0_0 w0_0 H
  try dsimp only [replC, List.cons_append, List.nil_append, List.append_nil, agg, cellsL, Value.cells, List.toList_toArray, List.set_cons_zero, List.set_cons_succ, spliceL, List.take_succ_cons, List.take_zero, List.drop_succ_cons, List.drop_zero, List.length_cons, List.length_nil, Nat.reduceAdd, Row.cells, Cm.L, Rq.L, Tp.L, Bat.L, Vt.L] at H
  refine r_assign rfl ?_
  refine LW.nil ?_
  refine thenE_norm (h1 _ _ ?_); clear h1; try clear K1
  refine CW.seq (fun K2 h2 => ?_)
  refine CW.block ?_
  refine CW.seq (fun K3 h3 => ?_)
  refine CW.region ?_
  refine r_move rfl ?_
  refine r_call rfl Try.call79 (by simp only [List.map_cons, List.map_nil, List.map_toArray, List.toList_toArray, upd_get, ev, Nat.reduceEqDiff, ↓reduceIte] <;> rfl) (high12_c _ _ _) ?_
  rintro _ _ ⟨rfl, rfl⟩
  refine ⟨_, rfl, ?_⟩
  refine r_not rfl rfl ?_
  refine r_move rfl ?_
  refine LW.splitB (t := 17) rfl (fun hg1_4 => ?_) (fun hg1_4 => ?_)
  · have hg1_4P := hg1_4
    try simp only [decide_eq_true_eq, decide_eq_false_iff_not, Bool.and_eq_true, Bool.or_eq_true, Bool.and_eq_false_iff, Bool.or_eq_false_iff, Bool.not_eq_true', Bool.not_eq_false', beq_iff_eq, bne_iff_ne] at hg1_4P
    refine LW.skip rfl (fun _ e => by cases e; decide) rfl hg1_4 ?_
    refine LW.skip rfl (fun _ e => by cases e; decide) rfl hg1_4 ?_
    refine LW.skip rfl (fun _ e => by cases e; decide) rfl hg1_4 ?_
    refine r_pickT rfl rfl hg1_4 ?_
    refine r_move rfl ?_
    refine LW.known (t := 22) (c := true) rfl (by first | assumption | rfl) (fun hg1_9 => ?_)
    refine LW.skip rfl (fun _ e => by cases e; decide) rfl hg1_9 ?_
    refine LW.skip rfl (fun _ e => by cases e; decide) rfl hg1_9 ?_
    refine LW.skip rfl (fun _ e => by cases e; decide) rfl hg1_9 ?_
    refine r_pickT rfl rfl hg1_9 ?_
    refine r_assign rfl ?_
    refine LW.nil ?_
    refine thenE_norm ?_
    refine cut (K := K3) [0, 1, 2, 7, 13] (fun σ => ?_)
    simp only [setL, keepE, upd_get, ev, Nat.reduceEqDiff, ↓reduceIte]
    refine h3 _ _ ?_; clear h3; try clear K3
    refine CW.condT rfl (by first | rfl | (simp only [decide_eq_true_eq, decide_eq_false_iff_not, Bool.and_eq_true, Bool.or_eq_true, Bool.and_eq_false_iff, Bool.or_eq_false_iff, Bool.not_eq_true', Bool.not_eq_false', beq_iff_eq, bne_iff_ne]; omega) | simp_all) ?_
    refine CW.seq (fun K4 h4 => ?_)
    refine CW.region ?_
    refine r_assign rfl ?_
    refine LW.nil ?_
    refine thenE_norm (h4 _ _ ?_); clear h4; try clear K4
    refine CW.ret (blockE_ret (thenE_ret (ret1 Try.results50 (by simp only [upd_get, ev, Nat.reduceEqDiff, ↓reduceIte]; rfl) ?_)))
    rw [accR, acc_no (s := ⟨s1, s2, s3⟩) (m := vmB sl b ⟨x1, x2, ⟨x3, x4⟩, x5, x6⟩ rs) (by
      rintro ⟨h1, -, -, -⟩
      rw [show highM b 0 = true from h1] at hg1_4P; cases hg1_4P)]
    obtain ⟨FN', K⟩ := RAcA.mk (SH.sel H [0, 1] (by decide) (by rfl))
    exact ⟨_, rfl, K⟩
  · have hg1_4P := hg1_4
    try simp only [decide_eq_true_eq, decide_eq_false_iff_not, Bool.and_eq_true, Bool.or_eq_true, Bool.and_eq_false_iff, Bool.or_eq_false_iff, Bool.not_eq_true', Bool.not_eq_false', beq_iff_eq, bne_iff_ne] at hg1_4P
    refine LW.want rfl rfl hg1_4 ?_
    refine r_move rfl ?_
    refine LW.want rfl rfl hg1_4 ?_
    refine r_call rfl Try.call79 (by simp only [List.map_cons, List.map_nil, List.map_toArray, List.toList_toArray, upd_get, ev, Nat.reduceEqDiff, ↓reduceIte] <;> rfl) (high12_c _ _ _) ?_
    rintro _ _ ⟨rfl, rfl⟩
    refine ⟨_, rfl, ?_⟩
    refine LW.want rfl rfl hg1_4 ?_
    refine r_not rfl rfl ?_
    refine r_pickF rfl rfl hg1_4 ?_
    refine r_move rfl ?_
    refine LW.splitB (t := 22) rfl (fun hg1_9 => ?_) (fun hg1_9 => ?_)
    · have hg1_9P := hg1_9
      try simp only [decide_eq_true_eq, decide_eq_false_iff_not, Bool.and_eq_true, Bool.or_eq_true, Bool.and_eq_false_iff, Bool.or_eq_false_iff, Bool.not_eq_true', Bool.not_eq_false', beq_iff_eq, bne_iff_ne] at hg1_9P
      refine LW.skip rfl (fun _ e => by cases e; decide) rfl hg1_9 ?_
      refine LW.skip rfl (fun _ e => by cases e; decide) rfl hg1_9 ?_
      refine LW.skip rfl (fun _ e => by cases e; decide) rfl hg1_9 ?_
      refine r_pickT rfl rfl hg1_9 ?_
      refine r_assign rfl ?_
      refine LW.nil ?_
      refine thenE_norm ?_
      refine cut (K := K3) [0, 1, 2, 7, 13] (fun σ => ?_)
      simp only [setL, keepE, upd_get, ev, Nat.reduceEqDiff, ↓reduceIte]
      refine h3 _ _ ?_; clear h3; try clear K3
      refine CW.condT rfl (by first | rfl | (simp only [decide_eq_true_eq, decide_eq_false_iff_not, Bool.and_eq_true, Bool.or_eq_true, Bool.and_eq_false_iff, Bool.or_eq_false_iff, Bool.not_eq_true', Bool.not_eq_false', beq_iff_eq, bne_iff_ne]; omega) | simp_all) ?_
      refine CW.seq (fun K5 h5 => ?_)
      refine CW.region ?_
      refine r_assign rfl ?_
      refine LW.nil ?_
      refine thenE_norm (h5 _ _ ?_); clear h5; try clear K5
      refine CW.ret (blockE_ret (thenE_ret (ret1 Try.results50 (by simp only [upd_get, ev, Nat.reduceEqDiff, ↓reduceIte]; rfl) ?_)))
      rw [accR, acc_no (s := ⟨s1, s2, s3⟩) (m := vmB sl b ⟨x1, x2, ⟨x3, x4⟩, x5, x6⟩ rs) (by
        rintro ⟨-, h2, h3, -⟩
        have := highM_t.2 ⟨show 1 ≤ sl from h2, show sl ≤ _ from h3⟩
        rw [this] at hg1_9P; cases hg1_9P)]
      obtain ⟨FN', K⟩ := RAcA.mk (SH.sel H [0, 1] (by decide) (by rfl))
      exact ⟨_, rfl, K⟩
    · have hg1_9P := hg1_9
      try simp only [decide_eq_true_eq, decide_eq_false_iff_not, Bool.and_eq_true, Bool.or_eq_true, Bool.and_eq_false_iff, Bool.or_eq_false_iff, Bool.not_eq_true', Bool.not_eq_false', beq_iff_eq, bne_iff_ne] at hg1_9P
      refine LW.want rfl rfl hg1_9 ?_
      refine r_loadA rfl Try.isAgg27 Try.sizeOf27 rfl (by first | exact SH.cells H (by (repeat first | exact At.here | apply At.there); done)) (by rfl) ?_
      refine LW.want rfl rfl hg1_9 ?_
      refine r_call rfl Try.call45 (by simp only [List.map_cons, List.map_nil, List.map_toArray, List.toList_toArray, upd_get, ev, Nat.reduceEqDiff, ↓reduceIte] <;> rfl) (MayBatR_c ⟨_, _, ⟨_, _⟩, _, _⟩ _ (SH.rsR H (i := 2) rfl)) ?_
      rintro _ w1_10 ⟨rfl, X⟩
      refine ⟨_, rfl, ?_⟩
      replace H := SH.same H X
      clear X
      refine LW.want rfl rfl hg1_9 ?_
      refine r_not rfl rfl ?_
      refine r_pickF rfl rfl hg1_9 ?_
      refine r_assign rfl ?_
      refine LW.nil ?_
      refine thenE_norm ?_
      refine cut (K := K3) [0, 1, 2, 7, 13] (fun σ => ?_)
      simp only [setL, keepE, upd_get, ev, Nat.reduceEqDiff, ↓reduceIte]
      refine h3 _ _ ?_; clear h3; try clear K3
      refine CW.cond rfl (fun hc1 => ?_) (fun hc1 => ?_)
      · try simp only [decide_eq_true_eq, decide_eq_false_iff_not, Bool.and_eq_true, Bool.or_eq_true, Bool.and_eq_false_iff, Bool.or_eq_false_iff, Bool.not_eq_true', Bool.not_eq_false', beq_iff_eq, bne_iff_ne, ne_eq, Decidable.not_not] at hc1
        refine CW.seq (fun K6 h6 => ?_)
        refine CW.region ?_
        refine r_assign rfl ?_
        refine LW.nil ?_
        refine thenE_norm (h6 _ _ ?_); clear h6; try clear K6
        refine CW.ret (blockE_ret (thenE_ret (ret1 Try.results50 (by simp only [upd_get, ev, Nat.reduceEqDiff, ↓reduceIte]; rfl) ?_)))
        rw [accR, acc_no (s := ⟨s1, s2, s3⟩) (m := vmB sl b ⟨x1, x2, ⟨x3, x4⟩, x5, x6⟩ rs) (by
          rintro ⟨-, -, -, h4⟩
          exact Bool.false_ne_true (hc1.symm.trans h4))]
        obtain ⟨FN', K⟩ := RAcA.mk (SH.sel H [0, 1] (by decide) (by rfl))
        exact ⟨_, rfl, K⟩
      · try simp only [decide_eq_true_eq, decide_eq_false_iff_not, Bool.and_eq_true, Bool.or_eq_true, Bool.and_eq_false_iff, Bool.or_eq_false_iff, Bool.not_eq_true', Bool.not_eq_false', beq_iff_eq, bne_iff_ne, ne_eq, Decidable.not_not] at hc1
        have hgo : highM b 0 = true ∧ 1 ≤ sl ∧ sl ≤ 2305843009213693952 ∧ mayV (vmB sl b ⟨x1, x2, ⟨x3, x4⟩, x5, x6⟩ rs) = true := ⟨hg1_4P, (highM_t.1 hg1_9P).1, (highM_t.1 hg1_9P).2, hc1⟩
        have hsl1 := (highM_t.1 hg1_9P).1
        have hsl2 := (highM_t.1 hg1_9P).2
        refine CW.seq (fun K7 h7 => ?_)
        refine CW.region ?_
        refine r_move rfl ?_
        refine r_move rfl ?_
        refine r_nilCheck rfl rfl ?_
        refine r_fieldAddrO rfl Try.underlying84 rfl Try.sizeOf3 (by decide) (show _ = 0 from rfl) rfl ?_
        refine r_load rfl Try.isAgg3 rfl (by first | exact SH.cellB H (by (repeat first | exact At.here | apply At.there); done) (by rfl) | exact SH.cellI H (by (repeat first | exact At.here | apply At.there); done) (by rfl) | assumption) ?_
        refine r_lss rfl rfl rfl ?_
        refine r_move rfl ?_
        refine' LW.grpOr (n := 7) (ts := [0, 1, 2, 7]) (d := 41) (tj := 34) rfl (fun hg3_7 => ?_) (fun hg3_7 => ?_) (fun σ => ?_)
        rotate_left
        · simp only [List.take_succ_cons, List.take_zero]
          have hg3_7P := hg3_7
          try simp only [decide_eq_true_eq, decide_eq_false_iff_not, Bool.and_eq_true, Bool.or_eq_true, Bool.and_eq_false_iff, Bool.or_eq_false_iff, Bool.not_eq_true', Bool.not_eq_false', beq_iff_eq, bne_iff_ne] at hg3_7P
          refine LW.want rfl rfl hg3_7 ?_
          refine r_move rfl ?_
          refine LW.want rfl rfl hg3_7 ?_
          refine r_move rfl ?_
          refine LW.want rfl rfl hg3_7 ?_
          refine r_nilCheck rfl rfl ?_
          refine LW.want rfl rfl hg3_7 ?_
          refine r_fieldAddrO rfl Try.underlying84 rfl Try.sizeOf3 (by decide) (show _ = 1 from rfl) rfl ?_
          refine LW.want rfl rfl hg3_7 ?_
          refine r_load rfl Try.isAgg3 rfl (by first | exact SH.cellB H (by (repeat first | exact At.here | apply At.there); done) (by rfl) | exact SH.cellI H (by (repeat first | exact At.here | apply At.there); done) (by rfl) | assumption) ?_
          refine LW.want rfl rfl hg3_7 ?_
          refine r_leq rfl rfl rfl ?_
          refine r_pickF rfl rfl hg3_7 ?_
          refine LW.nil (thenE_norm ⟨rfl, rfl, rfl⟩)
        · simp only [List.take_succ_cons, List.take_zero]
          refine LW.skip rfl (fun _ e => by cases e; decide) rfl hg3_7 ?_
          refine LW.skip rfl (fun _ e => by cases e; decide) rfl hg3_7 ?_
          refine LW.skip rfl (fun _ e => by cases e; decide) rfl hg3_7 ?_
          refine LW.skip rfl (fun _ e => by cases e; decide) rfl hg3_7 ?_
          refine LW.skip rfl (fun _ e => by cases e; decide) rfl hg3_7 ?_
          refine LW.skip rfl (fun _ e => by cases e; decide) rfl hg3_7 ?_
          refine r_pickT rfl rfl hg3_7 ?_
          refine LW.nil (thenE_norm ⟨rfl, rfl, rfl⟩)
        simp only [setL, keepE, upd_get, ev, Nat.reduceEqDiff, ↓reduceIte]; simp only [List.drop_succ_cons, List.drop_zero]
        refine r_assign rfl ?_
        refine LW.nil ?_
        refine thenE_norm (h7 _ _ ?_); clear h7; try clear K7
        refine CW.cond rfl (fun hc2 => ?_) (fun hc2 => ?_)
        · try simp only [decide_eq_true_eq, decide_eq_false_iff_not, Bool.and_eq_true, Bool.or_eq_true, Bool.and_eq_false_iff, Bool.or_eq_false_iff, Bool.not_eq_true', Bool.not_eq_false', beq_iff_eq, bne_iff_ne, ne_eq, Decidable.not_not] at hc2
          refine CW.seq (fun K8 h8 => ?_)
          refine CW.region ?_
          refine r_assign rfl ?_
          refine LW.nil ?_
          refine thenE_norm (h8 _ _ ?_); clear h8; try clear K8
          refine CW.ret (blockE_ret (thenE_ret (ret1 Try.results50 (by simp only [upd_get, ev, Nat.reduceEqDiff, ↓reduceIte]; rfl) ?_)))
          rw [accR, acc_old (s := ⟨s1, s2, s3⟩) (m := vmB sl b ⟨x1, x2, ⟨x3, x4⟩, x5, x6⟩ rs) hgo (show b < s1 ∨ sl ≤ s2 by omega)]
          obtain ⟨FN', K⟩ := RAcA.mk (SH.sel H [0, 1] (by decide) (by rfl))
          exact ⟨_, rfl, K⟩
        · try simp only [decide_eq_true_eq, decide_eq_false_iff_not, Bool.and_eq_true, Bool.or_eq_true, Bool.and_eq_false_iff, Bool.or_eq_false_iff, Bool.not_eq_true', Bool.not_eq_false', beq_iff_eq, bne_iff_ne, ne_eq, Decidable.not_not] at hc2
          refine CW.seq (fun K9 h9 => ?_)
          refine CW.region ?_
          refine r_move rfl ?_
          refine r_move rfl ?_
          refine r_nilCheck rfl rfl ?_
          refine r_fieldAddrO rfl Try.underlying84 rfl Try.sizeOf3 (by decide) (show _ = 1 from rfl) rfl ?_
          refine r_load rfl Try.isAgg3 rfl (by first | exact SH.cellB H (by (repeat first | exact At.here | apply At.there); done) (by rfl) | exact SH.cellI H (by (repeat first | exact At.here | apply At.there); done) (by rfl) | assumption) ?_
          refine r_sub rfl rfl rfl (wr_i64 (by omega) (by omega)) ?_
          refine r_gtr rfl rfl rfl ?_
          refine r_assign rfl ?_
          refine LW.nil ?_
          refine thenE_norm ?_
          refine cut (K := K9) [0, 1, 2, 7, 42] (fun σ => ?_)
          simp only [setL, keepE, upd_get, ev, Nat.reduceEqDiff, ↓reduceIte]
          refine h9 _ _ ?_; clear h9; try clear K9
          refine CW.cond rfl (fun hc3 => ?_) (fun hc3 => ?_)
          · try simp only [decide_eq_true_eq, decide_eq_false_iff_not, Bool.and_eq_true, Bool.or_eq_true, Bool.and_eq_false_iff, Bool.or_eq_false_iff, Bool.not_eq_true', Bool.not_eq_false', beq_iff_eq, bne_iff_ne, ne_eq, Decidable.not_not] at hc3
            refine CW.seq (fun K10 h10 => ?_)
            refine CW.region ?_
            refine r_assign rfl ?_
            refine LW.nil ?_
            refine thenE_norm (h10 _ _ ?_); clear h10; try clear K10
            refine CW.ret (blockE_ret (thenE_ret (ret1 Try.results50 (by simp only [upd_get, ev, Nat.reduceEqDiff, ↓reduceIte]; rfl) ?_)))
            rw [accR, acc_full (s := ⟨s1, s2, s3⟩) (m := vmB sl b ⟨x1, x2, ⟨x3, x4⟩, x5, x6⟩ rs) hgo (show ¬ (b < s1 ∨ sl ≤ s2) by omega) (show 9 < sl - s2 by omega)]
            obtain ⟨FN', K⟩ := RAcA.mk (SH.sel H [0, 1] (by decide) (by rfl))
            exact ⟨_, rfl, K⟩
          · try simp only [decide_eq_true_eq, decide_eq_false_iff_not, Bool.and_eq_true, Bool.or_eq_true, Bool.and_eq_false_iff, Bool.or_eq_false_iff, Bool.not_eq_true', Bool.not_eq_false', beq_iff_eq, bne_iff_ne, ne_eq, Decidable.not_not] at hc3
            refine CW.skip ?_
            refine blockE_norm ?_
            refine thenE_norm (h2 _ _ ?_); clear h2; try clear K2
            refine CW.seq (fun K11 h11 => ?_)
            have hacc : accM ⟨s1, s2, s3⟩ (vmB sl b ⟨x1, x2, ⟨x3, x4⟩, x5, x6⟩ rs) = (⟨b, s2, putK Vm.slot s3 (vmB sl b ⟨x1, x2, ⟨x3, x4⟩, x5, x6⟩ rs)⟩, 0) := acc_put (s := ⟨s1, s2, s3⟩) (m := vmB sl b ⟨x1, x2, ⟨x3, x4⟩, x5, x6⟩ rs) hgo (show ¬ (b < s1 ∨ sl ≤ s2) by omega) (show ¬ 9 < sl - s2 by omega)
            have hlen := fun i => ins2P_len (k := Vt.slot) (m := (⟨sl, b, ⟨x1, x2, ⟨x3, x4⟩, x5, x6⟩⟩ : Vt)) (l := raws) i
            refine CW.region ?_
            refine r_move rfl ?_
            refine r_move rfl ?_
            refine r_nilCheck rfl rfl ?_
            refine r_fieldAddrO rfl Try.underlying84 rfl Try.sizeOf3 (by decide) (show _ = 0 from rfl) rfl ?_
            refine s_store H Try.sizeOf3 rfl (by simp only [upd_get, ev, Nat.reduceEqDiff, ↓reduceIte] <;> rfl) (by first | rfl | assumption | exact Rs.oneC (by first | assumption | exact SH.rsR H (by (repeat first | exact At.here | apply At.there); done) | exact SH.rsO H (by (repeat first | exact At.here | apply At.there); done) | exact (Rs.nil : Rs Non _ _ _)) | (simp only [List.all_cons, List.all_nil, Bool.and_true, Bool.and_eq_true, Row.cells, Cm.L, Rq.L, Tp.L, Bat.L, Vt.L]; (repeat' constructor) <;> first | rfl | assumption | exact Rs.oneC (by first | assumption | exact SH.rsR H (by (repeat first | exact At.here | apply At.there); done) | exact SH.rsO H (by (repeat first | exact At.here | apply At.there); done) | exact (Rs.nil : Rs Non _ _ _)))) (by (repeat first | exact At.here | apply At.there); done) (by first | (simp; done) | decide | omega) ?_
            clear H
            intro w7_4 H
            try dsimp only [replC, List.cons_append, List.nil_append, List.append_nil, agg, cellsL, Value.cells, List.toList_toArray, List.set_cons_zero, List.set_cons_succ, spliceL, List.take_succ_cons, List.take_zero, List.drop_succ_cons, List.drop_zero, List.length_cons, List.length_nil, Nat.reduceAdd, Row.cells, Cm.L, Rq.L, Tp.L, Bat.L, Vt.L] at H
            refine LW.nil ?_
            refine thenE_norm (h11 _ _ ?_); clear h11; try clear K11
            refine CW.seq (fun K12 h12 => ?_)
            refine CW.region ?_
            refine r_assign rfl ?_
            refine LW.nil ?_
            refine thenE_norm (h12 _ _ ?_); clear h12; try clear K12
            refine CW.seq (fun K13 h13 => ?_)
            refine CW.region ?_
            refine r_assign rfl ?_
            refine LW.nil ?_
            refine thenE_norm (h13 _ _ ?_); clear h13; try clear K13
            refine CW.seq (fun K14 h14 => ?_)
            refine CW.region ?_
            refine r_move rfl ?_
            refine r_move rfl ?_
            refine r_loadA rfl Try.isAgg27 Try.sizeOf27 rfl (by first | exact SH.cells H (by (repeat first | exact At.here | apply At.there); done)) (by rfl) ?_
            refine r_buildQ rfl Try.underlying61 Try.zeroValue61 rfl (pl := [(0, 1), (1, 1), (2, 6)]) (by intro w; simp [go_sem]) (qs := [(0, [_]), (1, [_]), (2, [_, _, _, _, _, _])]) (cs := [_, _, _, _, _, _, _, _]) ⟨rfl, cells_one (by simp only [upd_get, ev, Nat.reduceEqDiff, ↓reduceIte] <;> rfl) (by first | rfl | exact Rs.oneC (by first | assumption | exact SH.rsR H (by (repeat first | exact At.here | apply At.there); done) | exact SH.rsO H (by (repeat first | exact At.here | apply At.there); done) | exact (Rs.nil : Rs Non _ _ _))), rfl, cells_one (by simp only [upd_get, ev, Nat.reduceEqDiff, ↓reduceIte] <;> rfl) (by first | rfl | exact Rs.oneC (by first | assumption | exact SH.rsR H (by (repeat first | exact At.here | apply At.there); done) | exact SH.rsO H (by (repeat first | exact At.here | apply At.there); done) | exact (Rs.nil : Rs Non _ _ _))), rfl, (by simp only [upd_get, ev, Nat.reduceEqDiff, ↓reduceIte, cellsL, agg, List.toList_toArray, Row.cells, Cm.L, Rq.L, Tp.L, Bat.L, Vt.L] <;> rfl), trivial⟩ rfl ?_
            refine s_alloc (cs := [.int .i64 0, .int .i64 0, .bool false, .int .i64 0, .int .i64 0, .int .i64 0, .int .i64 0, .slice none 0 0]) H rfl Try.zeroValue61 rfl ?_
            clear H
            intro b10_4 w10_4 H
            try dsimp only [replC, List.cons_append, List.nil_append, List.append_nil, agg, cellsL, Value.cells, List.toList_toArray, List.set_cons_zero, List.set_cons_succ, spliceL, List.take_succ_cons, List.take_zero, List.drop_succ_cons, List.drop_zero, List.length_cons, List.length_nil, Nat.reduceAdd, Row.cells, Cm.L, Rq.L, Tp.L, Bat.L, Vt.L] at H
            refine s_storeA H Try.sizeOf61 rfl (by simp only [upd_get, ev, Nat.reduceEqDiff, ↓reduceIte] <;> rfl) (by simp only [cellsL, agg, List.toList_toArray, Row.cells, Cm.L, Rq.L, Tp.L, Bat.L, Vt.L] <;> rfl) (by rfl) (by first | rfl | assumption | exact Rs.oneC (by first | assumption | exact SH.rsR H (by (repeat first | exact At.here | apply At.there); done) | exact SH.rsO H (by (repeat first | exact At.here | apply At.there); done) | exact (Rs.nil : Rs Non _ _ _)) | (simp only [List.all_cons, List.all_nil, Bool.and_true, Bool.and_eq_true, Row.cells, Cm.L, Rq.L, Tp.L, Bat.L, Vt.L]; (repeat' constructor) <;> first | rfl | assumption | exact Rs.oneC (by first | assumption | exact SH.rsR H (by (repeat first | exact At.here | apply At.there); done) | exact SH.rsO H (by (repeat first | exact At.here | apply At.there); done) | exact (Rs.nil : Rs Non _ _ _)))) (by (repeat first | exact At.here | apply At.there); done) (by first | (simp; done) | decide | (show _ ≤ _; decide)) ?_
            clear H
            intro w10_5 H
            try dsimp only [replC, List.cons_append, List.nil_append, List.append_nil, agg, cellsL, Value.cells, List.toList_toArray, List.set_cons_zero, List.set_cons_succ, spliceL, List.take_succ_cons, List.take_zero, List.drop_succ_cons, List.drop_zero, List.length_cons, List.length_nil, Nat.reduceAdd, Row.cells, Cm.L, Rq.L, Tp.L, Bat.L, Vt.L] at H
            refine LW.nil ?_
            refine thenE_norm ?_
            refine cut (K := K14) [0, 2, 9, 10, 11] (fun σ => ?_)
            simp only [setL, keepE, upd_get, ev, Nat.reduceEqDiff, ↓reduceIte]
            refine h14 _ _ ?_; clear h14; try clear K14
            refine CW.seq (fun K15 h15 => ?_)
            refine CW.seq (fun K16 h16 => ?_)
            refine CW.region ?_
            refine r_assign rfl ?_
            refine LW.nil ?_
            refine thenE_norm (h16 _ _ ?_); clear h16; try clear K16
            refine CW.block ?_
            refine CW.loopR [0, 2, 11] [9, 10, 12] (fun m vs w' => ∃ (i : Nat) (u : Value) (gu : Option Nat), vs = [u, .bool (ins2P Vt.slot ⟨sl, b, ⟨x1, x2, ⟨x3, x4⟩, x5, x6⟩⟩ raws i).1, .int .i64 i] ∧ i ≤ raws.length ∧ m = raws.length - i ∧ SH FN Any w w' [.B p 84 [.int .i64 b, .int .i64 s2, v], .O 61 v raws g, .R (fun b => F2 b ∧ b < w.heap.size) x6 rs, .B b10_4 61 [.int .i64 sl, .int .i64 b, .bool x1, .int .i64 x2, .int .i64 x3, .int .i64 x4, .int .i64 x5, x6], .O 61 u (ins2P Vt.slot ⟨sl, b, ⟨x1, x2, ⟨x3, x4⟩, x5, x6⟩⟩ raws i).2 gu]) (raws.length) ?_ ?_
            · exact ⟨0, .slice none 0 0, none, rfl, by omega, by omega, SH.sel (H.addO (α := Vt) 61) [0, 1, 2, 4, 5] (by decide) rfl⟩
            try clear H
            rintro n1 vs1 wL1 σ ⟨i, u, gu, rfl, hi, rfl, H⟩
            simp only [setL, keepE, upd_get, ev, Nat.reduceEqDiff, ↓reduceIte]
            refine CW.seq (fun K17 h17 => ?_)
            refine CW.seq (fun K18 h18 => ?_)
            refine CW.region ?_
            refine r_move rfl ?_
            refine r_move rfl ?_
            refine r_nilCheck rfl rfl ?_
            refine r_fieldAddrO rfl Try.underlying84 rfl Try.sizeOf58 (by decide) (show _ = 2 from rfl) rfl ?_
            refine r_load rfl Try.isAgg58 rfl (by first | exact SH.cellB H (by (repeat first | exact At.here | apply At.there); done) (by rfl) | exact SH.cellI H (by (repeat first | exact At.here | apply At.there); done) (by rfl) | assumption) ?_
            first
              | refine r_lenV rfl Try.underlying58 (by simp only [upd_get, ev, Nat.reduceEqDiff, ↓reduceIte] <;> rfl) (by first | assumption | exact SH.rsR H (by (repeat first | exact At.here | apply At.there); done) | exact SH.rsO H (by (repeat first | exact At.here | apply At.there); done) | exact (Rs.nil : Rs Non _ _ _)) ?_
              | refine r_len rfl Try.underlying58 rfl ?_
            refine r_lss rfl rfl rfl ?_
            refine LW.nil ?_
            refine thenE_norm (h18 _ _ ?_); clear h18; try clear K18
            refine CW.cond rfl (fun hc4 => ?_) (fun hc4 => ?_)
            · try simp only [decide_eq_true_eq, decide_eq_false_iff_not, Bool.and_eq_true, Bool.or_eq_true, Bool.and_eq_false_iff, Bool.or_eq_false_iff, Bool.not_eq_true', Bool.not_eq_false', beq_iff_eq, bne_iff_ne, ne_eq, Decidable.not_not] at hc4
              refine CW.skip ?_
              refine thenE_norm (h17 _ _ ?_); clear h17; try clear K17
              refine CW.seq (fun K19 h19 => ?_)
              refine CW.block ?_
              refine CW.seq (fun K20 h20 => ?_)
              refine CW.seq (fun K21 h21 => ?_)
              obtain ⟨y, hy⟩ := get_of_lt (show i < raws.length by omega)
              have hyo := (SH.rsO H (i := 1) rfl).2 _ (List.mem_of_getElem? hy)
              obtain ⟨y1, y2, ⟨y3, y4, ⟨y5, y6⟩, y7, y8⟩⟩ := y
              have hyo8 : oneC y8 = true := List.all_eq_true.1 hyo y8 (by simp [Row.cells, Vt.L])
              have hs := ins2P_succ (k := Vt.slot) (m := (⟨sl, b, ⟨x1, x2, ⟨x3, x4⟩, x5, x6⟩⟩ : Vt)) hy
              have hl := hlen i
              generalize ins2P Vt.slot ⟨sl, b, ⟨x1, x2, ⟨x3, x4⟩, x5, x6⟩⟩ raws i = S at *
              obtain ⟨sb, su⟩ := S
              dsimp only at hs hl H ⊢
              refine CW.region ?_
              refine r_move rfl ?_
              refine r_not rfl rfl ?_
              refine r_move rfl ?_
              refine LW.splitB (t := 69) rfl (fun hg14_3 => ?_) (fun hg14_3 => ?_)
              · have hg14_3P := hg14_3
                try simp only [decide_eq_true_eq, decide_eq_false_iff_not, Bool.and_eq_true, Bool.or_eq_true, Bool.and_eq_false_iff, Bool.or_eq_false_iff, Bool.not_eq_true', Bool.not_eq_false', beq_iff_eq, bne_iff_ne] at hg14_3P
                refine LW.want rfl rfl hg14_3 ?_
                refine r_move rfl ?_
                refine LW.want rfl rfl hg14_3 ?_
                refine r_nilCheck rfl rfl ?_
                refine LW.want rfl rfl hg14_3 ?_
                refine r_fieldAddrO rfl Try.underlying84 rfl Try.sizeOf58 (by decide) (show _ = 2 from rfl) rfl ?_
                refine LW.want rfl rfl hg14_3 ?_
                refine r_load rfl Try.isAgg58 rfl (by first | exact SH.cellB H (by (repeat first | exact At.here | apply At.there); done) (by rfl) | exact SH.cellI H (by (repeat first | exact At.here | apply At.there); done) (by rfl) | assumption) ?_
                refine LW.want rfl rfl hg14_3 ?_
                refine r_move rfl ?_
                refine LW.want rfl rfl hg14_3 ?_
                refine r_indexAddrV rfl Try.underlying58 (by simp only [upd_get, ev, Nat.reduceEqDiff, ↓reduceIte] <;> rfl) rfl (by first | assumption | exact SH.rsR H (by (repeat first | exact At.here | apply At.there); done) | exact SH.rsO H (by (repeat first | exact At.here | apply At.there); done) | exact (Rs.nil : Rs Non _ _ _)) (by exact Try.sizeOf61) (by omega) (by omega) ?_
                refine LW.want rfl rfl hg14_3 ?_
                refine r_fieldAddrO rfl Try.underlying61 rfl Try.sizeOf3 (by decide) (show _ + 0 = _ from rfl) rfl ?_
                refine LW.want rfl rfl hg14_3 ?_
                refine r_load rfl Try.isAgg3 rfl (by first | exact Rs.cell (by first | assumption | exact SH.rsR H (by (repeat first | exact At.here | apply At.there); done) | exact SH.rsO H (by (repeat first | exact At.here | apply At.there); done) | exact (Rs.nil : Rs Non _ _ _)) (by assumption) (by rfl) | exact Rs.cell0 (by first | assumption | exact SH.rsR H (by (repeat first | exact At.here | apply At.there); done) | exact SH.rsO H (by (repeat first | exact At.here | apply At.there); done) | exact (Rs.nil : Rs Non _ _ _)) (by assumption) (by rfl) | assumption) ?_
                refine LW.want rfl rfl hg14_3 ?_
                refine r_move rfl ?_
                refine LW.want rfl rfl hg14_3 ?_
                refine r_geq rfl rfl rfl ?_
                refine r_pickT rfl rfl hg14_3 ?_
                refine LW.nil ?_
                refine thenE_norm ?_
                refine cut (K := K21) [0, 2, 9, 10, 11, 12, 80] (fun σ => ?_)
                simp only [setL, keepE, upd_get, ev, Nat.reduceEqDiff, ↓reduceIte]
                refine h21 _ _ ?_; clear h21; try clear K21
                refine CW.cond rfl (fun hc5 => ?_) (fun hc5 => ?_)
                · try simp only [decide_eq_true_eq, decide_eq_false_iff_not, Bool.and_eq_true, Bool.or_eq_true, Bool.and_eq_false_iff, Bool.or_eq_false_iff, Bool.not_eq_true', Bool.not_eq_false', beq_iff_eq, bne_iff_ne, ne_eq, Decidable.not_not] at hc5
                  refine CW.seq (fun K22 h22 => ?_)
                  refine CW.region ?_
                  refine r_move rfl ?_
                  refine r_loadA rfl Try.isAgg61 Try.sizeOf61 rfl (by first | exact SH.cells H (by (repeat first | exact At.here | apply At.there); done)) (by rfl) ?_
                  refine r_buildSliceA (vs := [_]) rfl Try.underlying58 Try.sizeOf61 Try.zeroValue61 rfl rfl rfl rfl (by simp only [List.map_cons, List.map_nil, List.toList_toArray, numbered, Nat.reduceAdd, upd_get, ev, Nat.reduceEqDiff, ↓reduceIte] <;> rfl) rfl (by intro v hv; simp only [List.mem_cons, List.not_mem_nil, or_false] at hv; rcases hv with rfl <;> rfl) ?_
                  intro b15_2 w15_2 hb15_2 hs15_2 hE15_2 hB15_2
                  replace H := SH.call H (SH.fromB hE15_2 hb15_2 hs15_2 hB15_2)
                  clear hb15_2 hs15_2 hE15_2 hB15_2
                  try dsimp only [replC, List.cons_append, List.nil_append, List.append_nil, agg, cellsL, Value.cells, List.toList_toArray, List.set_cons_zero, List.set_cons_succ, spliceL, List.take_succ_cons, List.take_zero, List.drop_succ_cons, List.drop_zero, List.length_cons, List.length_nil, Nat.reduceAdd, Row.cells, Cm.L, Rq.L, Tp.L, Bat.L, Vt.L] at H
                  replace H := SH.row (b := b15_2) (xs := ([⟨sl, b, ⟨x1, x2, ⟨x3, x4⟩, x5, x6⟩⟩] : List Vt)) (n := 1) (cap := 1) H (by (repeat first | exact At.here | apply At.there); done) (by simp only [flat, List.flatMap_cons, List.flatMap_nil, cellsL, agg, List.append_nil, List.cons_append, List.nil_append, List.toList_toArray, Row.cells, Cm.L, Rq.L, Tp.L, Bat.L, Vt.L] <;> rfl) (by intro x hx; first | rfl | (simp at hx; done) | (simp only [List.mem_cons, List.not_mem_nil, or_false] at hx; rcases hx with rfl <;> first | rfl | exact (by first | rfl | assumption | exact Rs.oneC (by first | assumption | exact SH.rsR H (by (repeat first | exact At.here | apply At.there); done) | exact SH.rsO H (by (repeat first | exact At.here | apply At.there); done) | exact (Rs.nil : Rs Non _ _ _)) | (simp only [List.all_cons, List.all_nil, Bool.and_true, Bool.and_eq_true, Row.cells, Cm.L, Rq.L, Tp.L, Bat.L, Vt.L]; (repeat' constructor) <;> first | rfl | assumption | exact Rs.oneC (by first | assumption | exact SH.rsR H (by (repeat first | exact At.here | apply At.there); done) | exact SH.rsO H (by (repeat first | exact At.here | apply At.there); done) | exact (Rs.nil : Rs Non _ _ _)))))) (by rfl) rfl (by decide)
                  try dsimp only [replC, List.cons_append, List.nil_append, List.append_nil, agg, cellsL, Value.cells, List.toList_toArray, List.set_cons_zero, List.set_cons_succ, spliceL, List.take_succ_cons, List.take_zero, List.drop_succ_cons, List.drop_zero, List.length_cons, List.length_nil, Nat.reduceAdd, Row.cells, Cm.L, Rq.L, Tp.L, Bat.L, Vt.L] at H
                  refine s_append H rfl Try.underlying58 Try.underlying58 Try.type61 rfl (by simp only [upd_get, ev, Nat.reduceEqDiff, ↓reduceIte] <;> rfl) (by simp only [upd_get, ev, Nat.reduceEqDiff, ↓reduceIte] <;> rfl) (by (repeat first | exact At.here | apply At.there); done) (by first | assumption | exact SH.rsR H (by (repeat first | exact At.here | apply At.there); done) | exact SH.rsO H (by (repeat first | exact At.here | apply At.there); done) | exact (Rs.nil : Rs Non _ _ _)) (by rfl) (by rfl) (by first | omega | (simp only [Try.t61, List.length_append, List.length_cons, List.length_nil, List.length_map, maxLen]; omega) | (simp [Try.t61, maxLen]; omega)) (by first | omega | (simp only [Try.t61, List.length_append, List.length_cons, List.length_nil, List.length_map, maxLen]; omega) | (simp [Try.t61, maxLen]; omega)) ?_
                  clear H
                  intro v15_3 w15_3 g15_3 H hN15_3
                  try dsimp only [replC, List.cons_append, List.nil_append, List.append_nil] at H
                  refine r_assign rfl ?_
                  refine LW.nil ?_
                  refine thenE_norm (h22 _ _ ?_); clear h22; try clear K22
                  refine CW.region ?_
                  refine r_assign rfl ?_
                  refine LW.nil ?_
                  refine thenE_norm (h20 _ _ ?_); clear h20; try clear K20
                  refine CW.seq (fun K23 h23 => ?_)
                  refine CW.region ?_
                  refine r_move rfl ?_
                  refine r_nilCheck rfl rfl ?_
                  refine r_fieldAddrO rfl Try.underlying84 rfl Try.sizeOf58 (by decide) (show _ = 2 from rfl) rfl ?_
                  refine r_load rfl Try.isAgg58 rfl (by first | exact SH.cellB H (by (repeat first | exact At.here | apply At.there); done) (by rfl) | exact SH.cellI H (by (repeat first | exact At.here | apply At.there); done) (by rfl) | assumption) ?_
                  refine r_move rfl ?_
                  refine r_indexAddrV rfl Try.underlying58 (by simp only [upd_get, ev, Nat.reduceEqDiff, ↓reduceIte] <;> rfl) rfl (by first | assumption | exact SH.rsR H (by (repeat first | exact At.here | apply At.there); done) | exact SH.rsO H (by (repeat first | exact At.here | apply At.there); done) | exact (Rs.nil : Rs Non _ _ _)) (by exact Try.sizeOf61) (by omega) (by omega) ?_
                  refine r_fieldAddrO rfl Try.underlying61 rfl Try.sizeOf3 (by decide) (show _ + 0 = _ from rfl) rfl ?_
                  refine r_load rfl Try.isAgg3 rfl (by first | exact Rs.cell (by first | assumption | exact SH.rsR H (by (repeat first | exact At.here | apply At.there); done) | exact SH.rsO H (by (repeat first | exact At.here | apply At.there); done) | exact (Rs.nil : Rs Non _ _ _)) (by assumption) (by rfl) | exact Rs.cell0 (by first | assumption | exact SH.rsR H (by (repeat first | exact At.here | apply At.there); done) | exact SH.rsO H (by (repeat first | exact At.here | apply At.there); done) | exact (Rs.nil : Rs Non _ _ _)) (by assumption) (by rfl) | assumption) ?_
                  refine r_move rfl ?_
                  refine r_neq rfl rfl rfl ?_
                  refine LW.nil ?_
                  refine thenE_norm ?_
                  refine cut (K := K23) [0, 2, 9, 10, 11, 12, 94] (fun σ => ?_)
                  simp only [setL, keepE, upd_get, ev, Nat.reduceEqDiff, ↓reduceIte]
                  refine h23 _ _ ?_; clear h23; try clear K23
                  refine CW.cond rfl (fun hc6 => ?_) (fun hc6 => ?_)
                  · try simp only [decide_eq_true_eq, decide_eq_false_iff_not, Bool.and_eq_true, Bool.or_eq_true, Bool.and_eq_false_iff, Bool.or_eq_false_iff, Bool.not_eq_true', Bool.not_eq_false', beq_iff_eq, bne_iff_ne, ne_eq, Decidable.not_not] at hc6
                    refine CW.region ?_
                    refine r_move rfl ?_
                    refine r_move rfl ?_
                    refine r_nilCheck rfl rfl ?_
                    refine r_fieldAddrO rfl Try.underlying84 rfl Try.sizeOf58 (by decide) (show _ = 2 from rfl) rfl ?_
                    refine r_load rfl Try.isAgg58 rfl (by first | exact SH.cellB H (by (repeat first | exact At.here | apply At.there); done) (by rfl) | exact SH.cellI H (by (repeat first | exact At.here | apply At.there); done) (by rfl) | assumption) ?_
                    refine r_move rfl ?_
                    refine r_indexAddrV rfl Try.underlying58 (by simp only [upd_get, ev, Nat.reduceEqDiff, ↓reduceIte] <;> rfl) rfl (by first | assumption | exact SH.rsR H (by (repeat first | exact At.here | apply At.there); done) | exact SH.rsO H (by (repeat first | exact At.here | apply At.there); done) | exact (Rs.nil : Rs Non _ _ _)) (by exact Try.sizeOf61) (by omega) (by omega) ?_
                    refine r_loadA rfl Try.isAgg61 Try.sizeOf61 rfl (by first | exact Rs.cells0 (by first | assumption | exact SH.rsR H (by (repeat first | exact At.here | apply At.there); done) | exact SH.rsO H (by (repeat first | exact At.here | apply At.there); done) | exact (Rs.nil : Rs Non _ _ _)) (by assumption)) (by rfl) ?_
                    refine r_buildSliceA (vs := [_]) rfl Try.underlying58 Try.sizeOf61 Try.zeroValue61 rfl rfl rfl rfl (by simp only [List.map_cons, List.map_nil, List.toList_toArray, numbered, Nat.reduceAdd, upd_get, ev, Nat.reduceEqDiff, ↓reduceIte] <;> rfl) rfl (by intro v hv; simp only [List.mem_cons, List.not_mem_nil, or_false] at hv; rcases hv with rfl <;> rfl) ?_
                    intro b18_8 w18_8 hb18_8 hs18_8 hE18_8 hB18_8
                    replace H := SH.call H (SH.fromB hE18_8 hb18_8 hs18_8 hB18_8)
                    clear hb18_8 hs18_8 hE18_8 hB18_8
                    try dsimp only [replC, List.cons_append, List.nil_append, List.append_nil, agg, cellsL, Value.cells, List.toList_toArray, List.set_cons_zero, List.set_cons_succ, spliceL, List.take_succ_cons, List.take_zero, List.drop_succ_cons, List.drop_zero, List.length_cons, List.length_nil, Nat.reduceAdd, Row.cells, Cm.L, Rq.L, Tp.L, Bat.L, Vt.L] at H
                    replace H := SH.row (b := b18_8) (xs := ([⟨y1, y2, ⟨y3, y4, ⟨y5, y6⟩, y7, y8⟩⟩] : List Vt)) (n := 1) (cap := 1) H (by (repeat first | exact At.here | apply At.there); done) (by simp only [flat, List.flatMap_cons, List.flatMap_nil, cellsL, agg, List.append_nil, List.cons_append, List.nil_append, List.toList_toArray, Row.cells, Cm.L, Rq.L, Tp.L, Bat.L, Vt.L] <;> rfl) (by intro x hx; first | rfl | (simp at hx; done) | (simp only [List.mem_cons, List.not_mem_nil, or_false] at hx; rcases hx with rfl <;> first | rfl | exact (by first | rfl | assumption | exact Rs.oneC (by first | assumption | exact SH.rsR H (by (repeat first | exact At.here | apply At.there); done) | exact SH.rsO H (by (repeat first | exact At.here | apply At.there); done) | exact (Rs.nil : Rs Non _ _ _)) | (simp only [List.all_cons, List.all_nil, Bool.and_true, Bool.and_eq_true, Row.cells, Cm.L, Rq.L, Tp.L, Bat.L, Vt.L]; (repeat' constructor) <;> first | rfl | assumption | exact Rs.oneC (by first | assumption | exact SH.rsR H (by (repeat first | exact At.here | apply At.there); done) | exact SH.rsO H (by (repeat first | exact At.here | apply At.there); done) | exact (Rs.nil : Rs Non _ _ _)))))) (by rfl) rfl (by decide)
                    try dsimp only [replC, List.cons_append, List.nil_append, List.append_nil, agg, cellsL, Value.cells, List.toList_toArray, List.set_cons_zero, List.set_cons_succ, spliceL, List.take_succ_cons, List.take_zero, List.drop_succ_cons, List.drop_zero, List.length_cons, List.length_nil, Nat.reduceAdd, Row.cells, Cm.L, Rq.L, Tp.L, Bat.L, Vt.L] at H
                    refine s_append H rfl Try.underlying58 Try.underlying58 Try.type61 rfl (by simp only [upd_get, ev, Nat.reduceEqDiff, ↓reduceIte] <;> rfl) (by simp only [upd_get, ev, Nat.reduceEqDiff, ↓reduceIte] <;> rfl) (by (repeat first | exact At.here | apply At.there); done) (by first | assumption | exact SH.rsR H (by (repeat first | exact At.here | apply At.there); done) | exact SH.rsO H (by (repeat first | exact At.here | apply At.there); done) | exact (Rs.nil : Rs Non _ _ _)) (by rfl) (by rfl) (by first | omega | (simp only [Try.t61, List.length_append, List.length_cons, List.length_nil, List.length_map, maxLen]; omega) | (simp [Try.t61, maxLen]; omega)) (by first | omega | (simp only [Try.t61, List.length_append, List.length_cons, List.length_nil, List.length_map, maxLen]; omega) | (simp [Try.t61, maxLen]; omega)) ?_
                    clear H
                    intro v18_9 w18_9 g18_9 H hN18_9
                    try dsimp only [replC, List.cons_append, List.nil_append, List.append_nil] at H
                    refine r_assign rfl ?_
                    refine LW.nil ?_
                    refine blockE_norm ?_
                    refine thenE_norm (h19 _ _ ?_); clear h19; try clear K19
                    refine CW.region ?_
                    refine r_move rfl ?_
                    refine r_add rfl rfl rfl (wr_i64 (by omega) (by omega)) ?_
                    refine r_assign rfl ?_
                    refine LW.nil ?_
                    refine thenE_norm ⟨rfl, ?_⟩
                    have e1 : ins2S Vt.slot (⟨sl, b, ⟨x1, x2, ⟨x3, x4⟩, x5, x6⟩⟩ : Vt) (sb, su) ⟨y1, y2, ⟨y3, y4, ⟨y5, y6⟩, y7, y8⟩⟩ = if y1 ≠ sl then (true, su ++ [⟨sl, b, ⟨x1, x2, ⟨x3, x4⟩, x5, x6⟩⟩] ++ [⟨y1, y2, ⟨y3, y4, ⟨y5, y6⟩, y7, y8⟩⟩]) else (true, su ++ [⟨sl, b, ⟨x1, x2, ⟨x3, x4⟩, x5, x6⟩⟩]) := by
                      rw [ins2S, if_pos (show sb = false ∧ sl ≤ y1 from ⟨by first | exact hg14_3P | simpa using hg14_3P, by omega⟩)]
                    rw [e1] at hs
                    first
                      | (rw [if_pos (show y1 ≠ sl by omega)] at hs
                         exact ⟨raws.length - (i + 1), by omega, i + 1, _, _, by rw [hs]; rfl, by omega, rfl, by rw [hs]; exact SH.sel H [0, 1, 2, 3, 4] (by decide) rfl⟩)
                      | (rw [if_neg (show ¬ y1 ≠ sl by omega)] at hs
                         exact ⟨raws.length - (i + 1), by omega, i + 1, _, _, by rw [hs]; rfl, by omega, rfl, by rw [hs]; exact SH.sel H [0, 1, 2, 3, 4] (by decide) rfl⟩)
                  · try simp only [decide_eq_true_eq, decide_eq_false_iff_not, Bool.and_eq_true, Bool.or_eq_true, Bool.and_eq_false_iff, Bool.or_eq_false_iff, Bool.not_eq_true', Bool.not_eq_false', beq_iff_eq, bne_iff_ne, ne_eq, Decidable.not_not] at hc6
                    refine CW.skip ?_
                    refine blockE_norm ?_
                    refine thenE_norm (h19 _ _ ?_); clear h19; try clear K19
                    refine CW.region ?_
                    refine r_move rfl ?_
                    refine r_add rfl rfl rfl (wr_i64 (by omega) (by omega)) ?_
                    refine r_assign rfl ?_
                    refine LW.nil ?_
                    refine thenE_norm ⟨rfl, ?_⟩
                    have e1 : ins2S Vt.slot (⟨sl, b, ⟨x1, x2, ⟨x3, x4⟩, x5, x6⟩⟩ : Vt) (sb, su) ⟨y1, y2, ⟨y3, y4, ⟨y5, y6⟩, y7, y8⟩⟩ = if y1 ≠ sl then (true, su ++ [⟨sl, b, ⟨x1, x2, ⟨x3, x4⟩, x5, x6⟩⟩] ++ [⟨y1, y2, ⟨y3, y4, ⟨y5, y6⟩, y7, y8⟩⟩]) else (true, su ++ [⟨sl, b, ⟨x1, x2, ⟨x3, x4⟩, x5, x6⟩⟩]) := by
                      rw [ins2S, if_pos (show sb = false ∧ sl ≤ y1 from ⟨by first | exact hg14_3P | simpa using hg14_3P, by omega⟩)]
                    rw [e1] at hs
                    first
                      | (rw [if_pos (show y1 ≠ sl by omega)] at hs
                         exact ⟨raws.length - (i + 1), by omega, i + 1, _, _, by rw [hs]; rfl, by omega, rfl, by rw [hs]; exact SH.sel H [0, 1, 2, 3, 4] (by decide) rfl⟩)
                      | (rw [if_neg (show ¬ y1 ≠ sl by omega)] at hs
                         exact ⟨raws.length - (i + 1), by omega, i + 1, _, _, by rw [hs]; rfl, by omega, rfl, by rw [hs]; exact SH.sel H [0, 1, 2, 3, 4] (by decide) rfl⟩)
                · try simp only [decide_eq_true_eq, decide_eq_false_iff_not, Bool.and_eq_true, Bool.or_eq_true, Bool.and_eq_false_iff, Bool.or_eq_false_iff, Bool.not_eq_true', Bool.not_eq_false', beq_iff_eq, bne_iff_ne, ne_eq, Decidable.not_not] at hc5
                  refine CW.skip ?_
                  refine thenE_norm (h20 _ _ ?_); clear h20; try clear K20
                  refine CW.seq (fun K24 h24 => ?_)
                  refine CW.region ?_
                  refine r_move rfl ?_
                  refine r_nilCheck rfl rfl ?_
                  refine r_fieldAddrO rfl Try.underlying84 rfl Try.sizeOf58 (by decide) (show _ = 2 from rfl) rfl ?_
                  refine r_load rfl Try.isAgg58 rfl (by first | exact SH.cellB H (by (repeat first | exact At.here | apply At.there); done) (by rfl) | exact SH.cellI H (by (repeat first | exact At.here | apply At.there); done) (by rfl) | assumption) ?_
                  refine r_move rfl ?_
                  refine r_indexAddrV rfl Try.underlying58 (by simp only [upd_get, ev, Nat.reduceEqDiff, ↓reduceIte] <;> rfl) rfl (by first | assumption | exact SH.rsR H (by (repeat first | exact At.here | apply At.there); done) | exact SH.rsO H (by (repeat first | exact At.here | apply At.there); done) | exact (Rs.nil : Rs Non _ _ _)) (by exact Try.sizeOf61) (by omega) (by omega) ?_
                  refine r_fieldAddrO rfl Try.underlying61 rfl Try.sizeOf3 (by decide) (show _ + 0 = _ from rfl) rfl ?_
                  refine r_load rfl Try.isAgg3 rfl (by first | exact Rs.cell (by first | assumption | exact SH.rsR H (by (repeat first | exact At.here | apply At.there); done) | exact SH.rsO H (by (repeat first | exact At.here | apply At.there); done) | exact (Rs.nil : Rs Non _ _ _)) (by assumption) (by rfl) | exact Rs.cell0 (by first | assumption | exact SH.rsR H (by (repeat first | exact At.here | apply At.there); done) | exact SH.rsO H (by (repeat first | exact At.here | apply At.there); done) | exact (Rs.nil : Rs Non _ _ _)) (by assumption) (by rfl) | assumption) ?_
                  refine r_move rfl ?_
                  refine r_neq rfl rfl rfl ?_
                  refine LW.nil ?_
                  refine thenE_norm ?_
                  refine cut (K := K24) [0, 2, 9, 10, 11, 12, 94] (fun σ => ?_)
                  simp only [setL, keepE, upd_get, ev, Nat.reduceEqDiff, ↓reduceIte]
                  refine h24 _ _ ?_; clear h24; try clear K24
                  refine CW.cond rfl (fun hc6 => ?_) (fun hc6 => ?_)
                  · try simp only [decide_eq_true_eq, decide_eq_false_iff_not, Bool.and_eq_true, Bool.or_eq_true, Bool.and_eq_false_iff, Bool.or_eq_false_iff, Bool.not_eq_true', Bool.not_eq_false', beq_iff_eq, bne_iff_ne, ne_eq, Decidable.not_not] at hc6
                    refine CW.region ?_
                    refine r_move rfl ?_
                    refine r_move rfl ?_
                    refine r_nilCheck rfl rfl ?_
                    refine r_fieldAddrO rfl Try.underlying84 rfl Try.sizeOf58 (by decide) (show _ = 2 from rfl) rfl ?_
                    refine r_load rfl Try.isAgg58 rfl (by first | exact SH.cellB H (by (repeat first | exact At.here | apply At.there); done) (by rfl) | exact SH.cellI H (by (repeat first | exact At.here | apply At.there); done) (by rfl) | assumption) ?_
                    refine r_move rfl ?_
                    refine r_indexAddrV rfl Try.underlying58 (by simp only [upd_get, ev, Nat.reduceEqDiff, ↓reduceIte] <;> rfl) rfl (by first | assumption | exact SH.rsR H (by (repeat first | exact At.here | apply At.there); done) | exact SH.rsO H (by (repeat first | exact At.here | apply At.there); done) | exact (Rs.nil : Rs Non _ _ _)) (by exact Try.sizeOf61) (by omega) (by omega) ?_
                    refine r_loadA rfl Try.isAgg61 Try.sizeOf61 rfl (by first | exact Rs.cells0 (by first | assumption | exact SH.rsR H (by (repeat first | exact At.here | apply At.there); done) | exact SH.rsO H (by (repeat first | exact At.here | apply At.there); done) | exact (Rs.nil : Rs Non _ _ _)) (by assumption)) (by rfl) ?_
                    refine r_buildSliceA (vs := [_]) rfl Try.underlying58 Try.sizeOf61 Try.zeroValue61 rfl rfl rfl rfl (by simp only [List.map_cons, List.map_nil, List.toList_toArray, numbered, Nat.reduceAdd, upd_get, ev, Nat.reduceEqDiff, ↓reduceIte] <;> rfl) rfl (by intro v hv; simp only [List.mem_cons, List.not_mem_nil, or_false] at hv; rcases hv with rfl <;> rfl) ?_
                    intro b18_8 w18_8 hb18_8 hs18_8 hE18_8 hB18_8
                    replace H := SH.call H (SH.fromB hE18_8 hb18_8 hs18_8 hB18_8)
                    clear hb18_8 hs18_8 hE18_8 hB18_8
                    try dsimp only [replC, List.cons_append, List.nil_append, List.append_nil, agg, cellsL, Value.cells, List.toList_toArray, List.set_cons_zero, List.set_cons_succ, spliceL, List.take_succ_cons, List.take_zero, List.drop_succ_cons, List.drop_zero, List.length_cons, List.length_nil, Nat.reduceAdd, Row.cells, Cm.L, Rq.L, Tp.L, Bat.L, Vt.L] at H
                    replace H := SH.row (b := b18_8) (xs := ([⟨y1, y2, ⟨y3, y4, ⟨y5, y6⟩, y7, y8⟩⟩] : List Vt)) (n := 1) (cap := 1) H (by (repeat first | exact At.here | apply At.there); done) (by simp only [flat, List.flatMap_cons, List.flatMap_nil, cellsL, agg, List.append_nil, List.cons_append, List.nil_append, List.toList_toArray, Row.cells, Cm.L, Rq.L, Tp.L, Bat.L, Vt.L] <;> rfl) (by intro x hx; first | rfl | (simp at hx; done) | (simp only [List.mem_cons, List.not_mem_nil, or_false] at hx; rcases hx with rfl <;> first | rfl | exact (by first | rfl | assumption | exact Rs.oneC (by first | assumption | exact SH.rsR H (by (repeat first | exact At.here | apply At.there); done) | exact SH.rsO H (by (repeat first | exact At.here | apply At.there); done) | exact (Rs.nil : Rs Non _ _ _)) | (simp only [List.all_cons, List.all_nil, Bool.and_true, Bool.and_eq_true, Row.cells, Cm.L, Rq.L, Tp.L, Bat.L, Vt.L]; (repeat' constructor) <;> first | rfl | assumption | exact Rs.oneC (by first | assumption | exact SH.rsR H (by (repeat first | exact At.here | apply At.there); done) | exact SH.rsO H (by (repeat first | exact At.here | apply At.there); done) | exact (Rs.nil : Rs Non _ _ _)))))) (by rfl) rfl (by decide)
                    try dsimp only [replC, List.cons_append, List.nil_append, List.append_nil, agg, cellsL, Value.cells, List.toList_toArray, List.set_cons_zero, List.set_cons_succ, spliceL, List.take_succ_cons, List.take_zero, List.drop_succ_cons, List.drop_zero, List.length_cons, List.length_nil, Nat.reduceAdd, Row.cells, Cm.L, Rq.L, Tp.L, Bat.L, Vt.L] at H
                    refine s_append H rfl Try.underlying58 Try.underlying58 Try.type61 rfl (by simp only [upd_get, ev, Nat.reduceEqDiff, ↓reduceIte] <;> rfl) (by simp only [upd_get, ev, Nat.reduceEqDiff, ↓reduceIte] <;> rfl) (by (repeat first | exact At.here | apply At.there); done) (by first | assumption | exact SH.rsR H (by (repeat first | exact At.here | apply At.there); done) | exact SH.rsO H (by (repeat first | exact At.here | apply At.there); done) | exact (Rs.nil : Rs Non _ _ _)) (by rfl) (by rfl) (by first | omega | (simp only [Try.t61, List.length_append, List.length_cons, List.length_nil, List.length_map, maxLen]; omega) | (simp [Try.t61, maxLen]; omega)) (by first | omega | (simp only [Try.t61, List.length_append, List.length_cons, List.length_nil, List.length_map, maxLen]; omega) | (simp [Try.t61, maxLen]; omega)) ?_
                    clear H
                    intro v18_9 w18_9 g18_9 H hN18_9
                    try dsimp only [replC, List.cons_append, List.nil_append, List.append_nil] at H
                    refine r_assign rfl ?_
                    refine LW.nil ?_
                    refine blockE_norm ?_
                    refine thenE_norm (h19 _ _ ?_); clear h19; try clear K19
                    refine CW.region ?_
                    refine r_move rfl ?_
                    refine r_add rfl rfl rfl (wr_i64 (by omega) (by omega)) ?_
                    refine r_assign rfl ?_
                    refine LW.nil ?_
                    refine thenE_norm ⟨rfl, ?_⟩
                    have hno : ¬ (sb = false ∧ sl ≤ y1) := by
                      first
                        | (rintro ⟨h1, h2⟩; omega)
                        | (rintro ⟨h1, h2⟩; simp_all)
                    have e1 : ins2S Vt.slot (⟨sl, b, ⟨x1, x2, ⟨x3, x4⟩, x5, x6⟩⟩ : Vt) (sb, su) ⟨y1, y2, ⟨y3, y4, ⟨y5, y6⟩, y7, y8⟩⟩ = if y1 ≠ sl then (sb, su ++ [⟨y1, y2, ⟨y3, y4, ⟨y5, y6⟩, y7, y8⟩⟩]) else (sb, su) := by
                      rw [ins2S, if_neg hno]
                    rw [e1] at hs
                    first
                      | (rw [if_pos (show y1 ≠ sl by omega)] at hs
                         exact ⟨raws.length - (i + 1), by omega, i + 1, _, _, by rw [hs]; rfl, by omega, rfl, by rw [hs]; exact SH.sel H [0, 1, 2, 3, 4] (by decide) rfl⟩)
                      | (rw [if_neg (show ¬ y1 ≠ sl by omega)] at hs
                         exact ⟨raws.length - (i + 1), by omega, i + 1, _, _, by rw [hs]; rfl, by omega, rfl, by rw [hs]; exact SH.sel H [0, 1, 2, 3, 4] (by decide) rfl⟩)
                  · try simp only [decide_eq_true_eq, decide_eq_false_iff_not, Bool.and_eq_true, Bool.or_eq_true, Bool.and_eq_false_iff, Bool.or_eq_false_iff, Bool.not_eq_true', Bool.not_eq_false', beq_iff_eq, bne_iff_ne, ne_eq, Decidable.not_not] at hc6
                    refine CW.skip ?_
                    refine blockE_norm ?_
                    refine thenE_norm (h19 _ _ ?_); clear h19; try clear K19
                    refine CW.region ?_
                    refine r_move rfl ?_
                    refine r_add rfl rfl rfl (wr_i64 (by omega) (by omega)) ?_
                    refine r_assign rfl ?_
                    refine LW.nil ?_
                    refine thenE_norm ⟨rfl, ?_⟩
                    have hno : ¬ (sb = false ∧ sl ≤ y1) := by
                      first
                        | (rintro ⟨h1, h2⟩; omega)
                        | (rintro ⟨h1, h2⟩; simp_all)
                    have e1 : ins2S Vt.slot (⟨sl, b, ⟨x1, x2, ⟨x3, x4⟩, x5, x6⟩⟩ : Vt) (sb, su) ⟨y1, y2, ⟨y3, y4, ⟨y5, y6⟩, y7, y8⟩⟩ = if y1 ≠ sl then (sb, su ++ [⟨y1, y2, ⟨y3, y4, ⟨y5, y6⟩, y7, y8⟩⟩]) else (sb, su) := by
                      rw [ins2S, if_neg hno]
                    rw [e1] at hs
                    first
                      | (rw [if_pos (show y1 ≠ sl by omega)] at hs
                         exact ⟨raws.length - (i + 1), by omega, i + 1, _, _, by rw [hs]; rfl, by omega, rfl, by rw [hs]; exact SH.sel H [0, 1, 2, 3, 4] (by decide) rfl⟩)
                      | (rw [if_neg (show ¬ y1 ≠ sl by omega)] at hs
                         exact ⟨raws.length - (i + 1), by omega, i + 1, _, _, by rw [hs]; rfl, by omega, rfl, by rw [hs]; exact SH.sel H [0, 1, 2, 3, 4] (by decide) rfl⟩)
              · have hg14_3P := hg14_3
                try simp only [decide_eq_true_eq, decide_eq_false_iff_not, Bool.and_eq_true, Bool.or_eq_true, Bool.and_eq_false_iff, Bool.or_eq_false_iff, Bool.not_eq_true', Bool.not_eq_false', beq_iff_eq, bne_iff_ne] at hg14_3P
                refine LW.skip rfl (fun _ e => by cases e; decide) rfl hg14_3 ?_
                refine LW.skip rfl (fun _ e => by cases e; decide) rfl hg14_3 ?_
                refine LW.skip rfl (fun _ e => by cases e; decide) rfl hg14_3 ?_
                refine LW.skip rfl (fun _ e => by cases e; decide) rfl hg14_3 ?_
                refine LW.skip rfl (fun _ e => by cases e; decide) rfl hg14_3 ?_
                refine LW.skip rfl (fun _ e => by cases e; decide) rfl hg14_3 ?_
                refine LW.skip rfl (fun _ e => by cases e; decide) rfl hg14_3 ?_
                refine LW.skip rfl (fun _ e => by cases e; decide) rfl hg14_3 ?_
                refine LW.skip rfl (fun _ e => by cases e; decide) rfl hg14_3 ?_
                refine LW.skip rfl (fun _ e => by cases e; decide) rfl hg14_3 ?_
                refine r_pickF rfl rfl hg14_3 ?_
                refine LW.nil ?_
                refine thenE_norm ?_
                refine cut (K := K21) [0, 2, 9, 10, 11, 12, 80] (fun σ => ?_)
                simp only [setL, keepE, upd_get, ev, Nat.reduceEqDiff, ↓reduceIte]
                refine h21 _ _ ?_; clear h21; try clear K21
                refine CW.condF rfl (by first | rfl | (simp only [decide_eq_true_eq, decide_eq_false_iff_not, Bool.and_eq_true, Bool.or_eq_true, Bool.and_eq_false_iff, Bool.or_eq_false_iff, Bool.not_eq_true', Bool.not_eq_false', beq_iff_eq, bne_iff_ne]; omega) | simp_all) ?_
                refine CW.skip ?_
                refine thenE_norm (h20 _ _ ?_); clear h20; try clear K20
                refine CW.seq (fun K25 h25 => ?_)
                refine CW.region ?_
                refine r_move rfl ?_
                refine r_nilCheck rfl rfl ?_
                refine r_fieldAddrO rfl Try.underlying84 rfl Try.sizeOf58 (by decide) (show _ = 2 from rfl) rfl ?_
                refine r_load rfl Try.isAgg58 rfl (by first | exact SH.cellB H (by (repeat first | exact At.here | apply At.there); done) (by rfl) | exact SH.cellI H (by (repeat first | exact At.here | apply At.there); done) (by rfl) | assumption) ?_
                refine r_move rfl ?_
                refine r_indexAddrV rfl Try.underlying58 (by simp only [upd_get, ev, Nat.reduceEqDiff, ↓reduceIte] <;> rfl) rfl (by first | assumption | exact SH.rsR H (by (repeat first | exact At.here | apply At.there); done) | exact SH.rsO H (by (repeat first | exact At.here | apply At.there); done) | exact (Rs.nil : Rs Non _ _ _)) (by exact Try.sizeOf61) (by omega) (by omega) ?_
                refine r_fieldAddrO rfl Try.underlying61 rfl Try.sizeOf3 (by decide) (show _ + 0 = _ from rfl) rfl ?_
                refine r_load rfl Try.isAgg3 rfl (by first | exact Rs.cell (by first | assumption | exact SH.rsR H (by (repeat first | exact At.here | apply At.there); done) | exact SH.rsO H (by (repeat first | exact At.here | apply At.there); done) | exact (Rs.nil : Rs Non _ _ _)) (by assumption) (by rfl) | exact Rs.cell0 (by first | assumption | exact SH.rsR H (by (repeat first | exact At.here | apply At.there); done) | exact SH.rsO H (by (repeat first | exact At.here | apply At.there); done) | exact (Rs.nil : Rs Non _ _ _)) (by assumption) (by rfl) | assumption) ?_
                refine r_move rfl ?_
                refine r_neq rfl rfl rfl ?_
                refine LW.nil ?_
                refine thenE_norm ?_
                refine cut (K := K25) [0, 2, 9, 10, 11, 12, 94] (fun σ => ?_)
                simp only [setL, keepE, upd_get, ev, Nat.reduceEqDiff, ↓reduceIte]
                refine h25 _ _ ?_; clear h25; try clear K25
                refine CW.cond rfl (fun hc6 => ?_) (fun hc6 => ?_)
                · try simp only [decide_eq_true_eq, decide_eq_false_iff_not, Bool.and_eq_true, Bool.or_eq_true, Bool.and_eq_false_iff, Bool.or_eq_false_iff, Bool.not_eq_true', Bool.not_eq_false', beq_iff_eq, bne_iff_ne, ne_eq, Decidable.not_not] at hc6
                  refine CW.region ?_
                  refine r_move rfl ?_
                  refine r_move rfl ?_
                  refine r_nilCheck rfl rfl ?_
                  refine r_fieldAddrO rfl Try.underlying84 rfl Try.sizeOf58 (by decide) (show _ = 2 from rfl) rfl ?_
                  refine r_load rfl Try.isAgg58 rfl (by first | exact SH.cellB H (by (repeat first | exact At.here | apply At.there); done) (by rfl) | exact SH.cellI H (by (repeat first | exact At.here | apply At.there); done) (by rfl) | assumption) ?_
                  refine r_move rfl ?_
                  refine r_indexAddrV rfl Try.underlying58 (by simp only [upd_get, ev, Nat.reduceEqDiff, ↓reduceIte] <;> rfl) rfl (by first | assumption | exact SH.rsR H (by (repeat first | exact At.here | apply At.there); done) | exact SH.rsO H (by (repeat first | exact At.here | apply At.there); done) | exact (Rs.nil : Rs Non _ _ _)) (by exact Try.sizeOf61) (by omega) (by omega) ?_
                  refine r_loadA rfl Try.isAgg61 Try.sizeOf61 rfl (by first | exact Rs.cells0 (by first | assumption | exact SH.rsR H (by (repeat first | exact At.here | apply At.there); done) | exact SH.rsO H (by (repeat first | exact At.here | apply At.there); done) | exact (Rs.nil : Rs Non _ _ _)) (by assumption)) (by rfl) ?_
                  refine r_buildSliceA (vs := [_]) rfl Try.underlying58 Try.sizeOf61 Try.zeroValue61 rfl rfl rfl rfl (by simp only [List.map_cons, List.map_nil, List.toList_toArray, numbered, Nat.reduceAdd, upd_get, ev, Nat.reduceEqDiff, ↓reduceIte] <;> rfl) rfl (by intro v hv; simp only [List.mem_cons, List.not_mem_nil, or_false] at hv; rcases hv with rfl <;> rfl) ?_
                  intro b18_8 w18_8 hb18_8 hs18_8 hE18_8 hB18_8
                  replace H := SH.call H (SH.fromB hE18_8 hb18_8 hs18_8 hB18_8)
                  clear hb18_8 hs18_8 hE18_8 hB18_8
                  try dsimp only [replC, List.cons_append, List.nil_append, List.append_nil, agg, cellsL, Value.cells, List.toList_toArray, List.set_cons_zero, List.set_cons_succ, spliceL, List.take_succ_cons, List.take_zero, List.drop_succ_cons, List.drop_zero, List.length_cons, List.length_nil, Nat.reduceAdd, Row.cells, Cm.L, Rq.L, Tp.L, Bat.L, Vt.L] at H
                  replace H := SH.row (b := b18_8) (xs := ([⟨y1, y2, ⟨y3, y4, ⟨y5, y6⟩, y7, y8⟩⟩] : List Vt)) (n := 1) (cap := 1) H (by (repeat first | exact At.here | apply At.there); done) (by simp only [flat, List.flatMap_cons, List.flatMap_nil, cellsL, agg, List.append_nil, List.cons_append, List.nil_append, List.toList_toArray, Row.cells, Cm.L, Rq.L, Tp.L, Bat.L, Vt.L] <;> rfl) (by intro x hx; first | rfl | (simp at hx; done) | (simp only [List.mem_cons, List.not_mem_nil, or_false] at hx; rcases hx with rfl <;> first | rfl | exact (by first | rfl | assumption | exact Rs.oneC (by first | assumption | exact SH.rsR H (by (repeat first | exact At.here | apply At.there); done) | exact SH.rsO H (by (repeat first | exact At.here | apply At.there); done) | exact (Rs.nil : Rs Non _ _ _)) | (simp only [List.all_cons, List.all_nil, Bool.and_true, Bool.and_eq_true, Row.cells, Cm.L, Rq.L, Tp.L, Bat.L, Vt.L]; (repeat' constructor) <;> first | rfl | assumption | exact Rs.oneC (by first | assumption | exact SH.rsR H (by (repeat first | exact At.here | apply At.there); done) | exact SH.rsO H (by (repeat first | exact At.here | apply At.there); done) | exact (Rs.nil : Rs Non _ _ _)))))) (by rfl) rfl (by decide)
                  try dsimp only [replC, List.cons_append, List.nil_append, List.append_nil, agg, cellsL, Value.cells, List.toList_toArray, List.set_cons_zero, List.set_cons_succ, spliceL, List.take_succ_cons, List.take_zero, List.drop_succ_cons, List.drop_zero, List.length_cons, List.length_nil, Nat.reduceAdd, Row.cells, Cm.L, Rq.L, Tp.L, Bat.L, Vt.L] at H
                  refine s_append H rfl Try.underlying58 Try.underlying58 Try.type61 rfl (by simp only [upd_get, ev, Nat.reduceEqDiff, ↓reduceIte] <;> rfl) (by simp only [upd_get, ev, Nat.reduceEqDiff, ↓reduceIte] <;> rfl) (by (repeat first | exact At.here | apply At.there); done) (by first | assumption | exact SH.rsR H (by (repeat first | exact At.here | apply At.there); done) | exact SH.rsO H (by (repeat first | exact At.here | apply At.there); done) | exact (Rs.nil : Rs Non _ _ _)) (by rfl) (by rfl) (by first | omega | (simp only [Try.t61, List.length_append, List.length_cons, List.length_nil, List.length_map, maxLen]; omega) | (simp [Try.t61, maxLen]; omega)) (by first | omega | (simp only [Try.t61, List.length_append, List.length_cons, List.length_nil, List.length_map, maxLen]; omega) | (simp [Try.t61, maxLen]; omega)) ?_
                  clear H
                  intro v18_9 w18_9 g18_9 H hN18_9
                  try dsimp only [replC, List.cons_append, List.nil_append, List.append_nil] at H
                  refine r_assign rfl ?_
                  refine LW.nil ?_
                  refine blockE_norm ?_
                  refine thenE_norm (h19 _ _ ?_); clear h19; try clear K19
                  refine CW.region ?_
                  refine r_move rfl ?_
                  refine r_add rfl rfl rfl (wr_i64 (by omega) (by omega)) ?_
                  refine r_assign rfl ?_
                  refine LW.nil ?_
                  refine thenE_norm ⟨rfl, ?_⟩
                  have hno : ¬ (sb = false ∧ sl ≤ y1) := by
                    first
                      | (rintro ⟨h1, h2⟩; omega)
                      | (rintro ⟨h1, h2⟩; simp_all)
                  have e1 : ins2S Vt.slot (⟨sl, b, ⟨x1, x2, ⟨x3, x4⟩, x5, x6⟩⟩ : Vt) (sb, su) ⟨y1, y2, ⟨y3, y4, ⟨y5, y6⟩, y7, y8⟩⟩ = if y1 ≠ sl then (sb, su ++ [⟨y1, y2, ⟨y3, y4, ⟨y5, y6⟩, y7, y8⟩⟩]) else (sb, su) := by
                    rw [ins2S, if_neg hno]
                  rw [e1] at hs
                  first
                    | (rw [if_pos (show y1 ≠ sl by omega)] at hs
                       exact ⟨raws.length - (i + 1), by omega, i + 1, _, _, by rw [hs]; rfl, by omega, rfl, by rw [hs]; exact SH.sel H [0, 1, 2, 3, 4] (by decide) rfl⟩)
                    | (rw [if_neg (show ¬ y1 ≠ sl by omega)] at hs
                       exact ⟨raws.length - (i + 1), by omega, i + 1, _, _, by rw [hs]; rfl, by omega, rfl, by rw [hs]; exact SH.sel H [0, 1, 2, 3, 4] (by decide) rfl⟩)
                · try simp only [decide_eq_true_eq, decide_eq_false_iff_not, Bool.and_eq_true, Bool.or_eq_true, Bool.and_eq_false_iff, Bool.or_eq_false_iff, Bool.not_eq_true', Bool.not_eq_false', beq_iff_eq, bne_iff_ne, ne_eq, Decidable.not_not] at hc6
                  refine CW.skip ?_
                  refine blockE_norm ?_
                  refine thenE_norm (h19 _ _ ?_); clear h19; try clear K19
                  refine CW.region ?_
                  refine r_move rfl ?_
                  refine r_add rfl rfl rfl (wr_i64 (by omega) (by omega)) ?_
                  refine r_assign rfl ?_
                  refine LW.nil ?_
                  refine thenE_norm ⟨rfl, ?_⟩
                  have hno : ¬ (sb = false ∧ sl ≤ y1) := by
                    first
                      | (rintro ⟨h1, h2⟩; omega)
                      | (rintro ⟨h1, h2⟩; simp_all)
                  have e1 : ins2S Vt.slot (⟨sl, b, ⟨x1, x2, ⟨x3, x4⟩, x5, x6⟩⟩ : Vt) (sb, su) ⟨y1, y2, ⟨y3, y4, ⟨y5, y6⟩, y7, y8⟩⟩ = if y1 ≠ sl then (sb, su ++ [⟨y1, y2, ⟨y3, y4, ⟨y5, y6⟩, y7, y8⟩⟩]) else (sb, su) := by
                    rw [ins2S, if_neg hno]
                  rw [e1] at hs
                  first
                    | (rw [if_pos (show y1 ≠ sl by omega)] at hs
                       exact ⟨raws.length - (i + 1), by omega, i + 1, _, _, by rw [hs]; rfl, by omega, rfl, by rw [hs]; exact SH.sel H [0, 1, 2, 3, 4] (by decide) rfl⟩)
                    | (rw [if_neg (show ¬ y1 ≠ sl by omega)] at hs
                       exact ⟨raws.length - (i + 1), by omega, i + 1, _, _, by rw [hs]; rfl, by omega, rfl, by rw [hs]; exact SH.sel H [0, 1, 2, 3, 4] (by decide) rfl⟩)
            · try simp only [decide_eq_true_eq, decide_eq_false_iff_not, Bool.and_eq_true, Bool.or_eq_true, Bool.and_eq_false_iff, Bool.or_eq_false_iff, Bool.not_eq_true', Bool.not_eq_false', beq_iff_eq, bne_iff_ne, ne_eq, Decidable.not_not] at hc4
              refine CW.exit (thenE_exit (thenE_exit (blockE_hit ?_)))
              refine thenE_norm (h15 _ _ ?_); clear h15; try clear K15
              refine CW.seq (fun K26 h26 => ?_)
              refine CW.seq (fun K27 h27 => ?_)
              obtain rfl : i = raws.length := by omega
              have hend := ins2P_end (k := Vt.slot) (m := (⟨sl, b, ⟨x1, x2, ⟨x3, x4⟩, x5, x6⟩⟩ : Vt)) hup
              have hl := hlen raws.length
              generalize ins2P Vt.slot ⟨sl, b, ⟨x1, x2, ⟨x3, x4⟩, x5, x6⟩⟩ raws raws.length = S at *
              obtain ⟨sb, su⟩ := S
              dsimp only at hend hl H ⊢
              refine CW.region ?_
              refine r_move rfl ?_
              refine r_not rfl rfl ?_
              refine LW.nil ?_
              refine thenE_norm ?_
              refine cut (K := K27) [0, 9, 11, 106] (fun σ => ?_)
              simp only [setL, keepE, upd_get, ev, Nat.reduceEqDiff, ↓reduceIte]
              refine h27 _ _ ?_; clear h27; try clear K27
              refine CW.cond rfl (fun hc7 => ?_) (fun hc7 => ?_)
              · try simp only [decide_eq_true_eq, decide_eq_false_iff_not, Bool.and_eq_true, Bool.or_eq_true, Bool.and_eq_false_iff, Bool.or_eq_false_iff, Bool.not_eq_true', Bool.not_eq_false', beq_iff_eq, bne_iff_ne, ne_eq, Decidable.not_not] at hc7
                refine CW.region ?_
                refine r_move rfl ?_
                refine r_loadA rfl Try.isAgg61 Try.sizeOf61 rfl (by first | exact SH.cells H (by (repeat first | exact At.here | apply At.there); done)) (by rfl) ?_
                refine r_buildSliceA (vs := [_]) rfl Try.underlying58 Try.sizeOf61 Try.zeroValue61 rfl rfl rfl rfl (by simp only [List.map_cons, List.map_nil, List.toList_toArray, numbered, Nat.reduceAdd, upd_get, ev, Nat.reduceEqDiff, ↓reduceIte] <;> rfl) rfl (by intro v hv; simp only [List.mem_cons, List.not_mem_nil, or_false] at hv; rcases hv with rfl <;> rfl) ?_
                intro b20_2 w20_2 hb20_2 hs20_2 hE20_2 hB20_2
                replace H := SH.call H (SH.fromB hE20_2 hb20_2 hs20_2 hB20_2)
                clear hb20_2 hs20_2 hE20_2 hB20_2
                try dsimp only [replC, List.cons_append, List.nil_append, List.append_nil, agg, cellsL, Value.cells, List.toList_toArray, List.set_cons_zero, List.set_cons_succ, spliceL, List.take_succ_cons, List.take_zero, List.drop_succ_cons, List.drop_zero, List.length_cons, List.length_nil, Nat.reduceAdd, Row.cells, Cm.L, Rq.L, Tp.L, Bat.L, Vt.L] at H
                replace H := SH.row (b := b20_2) (xs := ([⟨sl, b, ⟨x1, x2, ⟨x3, x4⟩, x5, x6⟩⟩] : List Vt)) (n := 1) (cap := 1) H (by (repeat first | exact At.here | apply At.there); done) (by simp only [flat, List.flatMap_cons, List.flatMap_nil, cellsL, agg, List.append_nil, List.cons_append, List.nil_append, List.toList_toArray, Row.cells, Cm.L, Rq.L, Tp.L, Bat.L, Vt.L] <;> rfl) (by intro x hx; first | rfl | (simp at hx; done) | (simp only [List.mem_cons, List.not_mem_nil, or_false] at hx; rcases hx with rfl <;> first | rfl | exact (by first | rfl | assumption | exact Rs.oneC (by first | assumption | exact SH.rsR H (by (repeat first | exact At.here | apply At.there); done) | exact SH.rsO H (by (repeat first | exact At.here | apply At.there); done) | exact (Rs.nil : Rs Non _ _ _)) | (simp only [List.all_cons, List.all_nil, Bool.and_true, Bool.and_eq_true, Row.cells, Cm.L, Rq.L, Tp.L, Bat.L, Vt.L]; (repeat' constructor) <;> first | rfl | assumption | exact Rs.oneC (by first | assumption | exact SH.rsR H (by (repeat first | exact At.here | apply At.there); done) | exact SH.rsO H (by (repeat first | exact At.here | apply At.there); done) | exact (Rs.nil : Rs Non _ _ _)))))) (by rfl) rfl (by decide)
                try dsimp only [replC, List.cons_append, List.nil_append, List.append_nil, agg, cellsL, Value.cells, List.toList_toArray, List.set_cons_zero, List.set_cons_succ, spliceL, List.take_succ_cons, List.take_zero, List.drop_succ_cons, List.drop_zero, List.length_cons, List.length_nil, Nat.reduceAdd, Row.cells, Cm.L, Rq.L, Tp.L, Bat.L, Vt.L] at H
                first
                  | refine s_append H rfl Try.underlying58 Try.underlying58 Try.type61 rfl (by simp only [upd_get, ev, Nat.reduceEqDiff, ↓reduceIte] <;> rfl) (by simp only [upd_get, ev, Nat.reduceEqDiff, ↓reduceIte] <;> rfl) (by (repeat first | exact At.here | apply At.there); done) (by first | assumption | exact SH.rsR H (by (repeat first | exact At.here | apply At.there); done) | exact SH.rsO H (by (repeat first | exact At.here | apply At.there); done) | exact (Rs.nil : Rs Non _ _ _)) (by rfl) (by rfl) (by first | omega | (simp only [Try.t61, List.length_append, List.length_cons, List.length_nil, List.length_map, maxLen]; omega) | (simp [Try.t61, maxLen]; omega)) (by first | omega | (simp only [Try.t61, List.length_append, List.length_cons, List.length_nil, List.length_map, maxLen]; omega) | (simp [Try.t61, maxLen]; omega)) ?_
                  | refine s_appendNil H rfl Try.underlying58 Try.underlying58 Try.type61 rfl rfl (by simp only [upd_get, ev, Nat.reduceEqDiff, ↓reduceIte] <;> rfl) (by first | assumption | exact SH.rsR H (by (repeat first | exact At.here | apply At.there); done) | exact SH.rsO H (by (repeat first | exact At.here | apply At.there); done) | exact (Rs.nil : Rs Non _ _ _)) (by rfl) (by rfl) (by first | omega | (simp only [Try.t61, List.length_append, List.length_cons, List.length_nil, List.length_map, maxLen]; omega) | (simp [Try.t61, maxLen]; omega)) ?_
                clear H
                intro v20_3 w20_3 g20_3 H hN20_3
                try dsimp only [replC, List.cons_append, List.nil_append, List.append_nil] at H
                refine r_assign rfl ?_
                refine LW.nil ?_
                refine thenE_norm (h26 _ _ ?_); clear h26; try clear K26
                refine CW.seq (fun K28 h28 => ?_)
                refine CW.region ?_
                refine r_move rfl ?_
                refine r_move rfl ?_
                refine r_nilCheck rfl rfl ?_
                refine r_fieldAddrO rfl Try.underlying84 rfl Try.sizeOf58 (by decide) (show _ = 2 from rfl) rfl ?_
                refine s_store H Try.sizeOf58 rfl (by simp only [upd_get, ev, Nat.reduceEqDiff, ↓reduceIte] <;> rfl) (by first | rfl | assumption | exact Rs.oneC (by first | assumption | exact SH.rsR H (by (repeat first | exact At.here | apply At.there); done) | exact SH.rsO H (by (repeat first | exact At.here | apply At.there); done) | exact (Rs.nil : Rs Non _ _ _)) | (simp only [List.all_cons, List.all_nil, Bool.and_true, Bool.and_eq_true, Row.cells, Cm.L, Rq.L, Tp.L, Bat.L, Vt.L]; (repeat' constructor) <;> first | rfl | assumption | exact Rs.oneC (by first | assumption | exact SH.rsR H (by (repeat first | exact At.here | apply At.there); done) | exact SH.rsO H (by (repeat first | exact At.here | apply At.there); done) | exact (Rs.nil : Rs Non _ _ _)))) (by (repeat first | exact At.here | apply At.there); done) (by first | (simp; done) | decide | omega) ?_
                clear H
                intro w21_4 H
                try dsimp only [replC, List.cons_append, List.nil_append, List.append_nil, agg, cellsL, Value.cells, List.toList_toArray, List.set_cons_zero, List.set_cons_succ, spliceL, List.take_succ_cons, List.take_zero, List.drop_succ_cons, List.drop_zero, List.length_cons, List.length_nil, Nat.reduceAdd, Row.cells, Cm.L, Rq.L, Tp.L, Bat.L, Vt.L] at H
                refine LW.nil ?_
                refine thenE_norm ?_
                refine cut (K := K28) [] (fun σ => ?_)
                simp only [setL, keepE, upd_get, ev, Nat.reduceEqDiff, ↓reduceIte]
                refine h28 _ _ ?_; clear h28; try clear K28
                refine CW.seq (fun K29 h29 => ?_)
                refine CW.region ?_
                refine r_assign rfl ?_
                refine LW.nil ?_
                refine thenE_norm (h29 _ _ ?_); clear h29; try clear K29
                refine CW.ret (ret1 Try.results50 (by simp only [upd_get, ev, Nat.reduceEqDiff, ↓reduceIte]; rfl) ?_)
                rw [if_neg (by first | (rw [hc7]; exact Bool.false_ne_true) | simpa using hc7)] at hend
                rw [accR, hacc, if_pos rfl, ← hend]
                obtain ⟨FN', K⟩ := RAcA.mk (SH.sel H [0, 4] (by decide) (by rfl))
                exact ⟨_, rfl, K⟩
              · try simp only [decide_eq_true_eq, decide_eq_false_iff_not, Bool.and_eq_true, Bool.or_eq_true, Bool.and_eq_false_iff, Bool.or_eq_false_iff, Bool.not_eq_true', Bool.not_eq_false', beq_iff_eq, bne_iff_ne, ne_eq, Decidable.not_not] at hc7
                refine CW.skip ?_
                refine thenE_norm (h26 _ _ ?_); clear h26; try clear K26
                refine CW.seq (fun K30 h30 => ?_)
                refine CW.region ?_
                refine r_move rfl ?_
                refine r_move rfl ?_
                refine r_nilCheck rfl rfl ?_
                refine r_fieldAddrO rfl Try.underlying84 rfl Try.sizeOf58 (by decide) (show _ = 2 from rfl) rfl ?_
                refine s_store H Try.sizeOf58 rfl (by simp only [upd_get, ev, Nat.reduceEqDiff, ↓reduceIte] <;> rfl) (by first | rfl | assumption | exact Rs.oneC (by first | assumption | exact SH.rsR H (by (repeat first | exact At.here | apply At.there); done) | exact SH.rsO H (by (repeat first | exact At.here | apply At.there); done) | exact (Rs.nil : Rs Non _ _ _)) | (simp only [List.all_cons, List.all_nil, Bool.and_true, Bool.and_eq_true, Row.cells, Cm.L, Rq.L, Tp.L, Bat.L, Vt.L]; (repeat' constructor) <;> first | rfl | assumption | exact Rs.oneC (by first | assumption | exact SH.rsR H (by (repeat first | exact At.here | apply At.there); done) | exact SH.rsO H (by (repeat first | exact At.here | apply At.there); done) | exact (Rs.nil : Rs Non _ _ _)))) (by (repeat first | exact At.here | apply At.there); done) (by first | (simp; done) | decide | omega) ?_
                clear H
                intro w21_4 H
                try dsimp only [replC, List.cons_append, List.nil_append, List.append_nil, agg, cellsL, Value.cells, List.toList_toArray, List.set_cons_zero, List.set_cons_succ, spliceL, List.take_succ_cons, List.take_zero, List.drop_succ_cons, List.drop_zero, List.length_cons, List.length_nil, Nat.reduceAdd, Row.cells, Cm.L, Rq.L, Tp.L, Bat.L, Vt.L] at H
                refine LW.nil ?_
                refine thenE_norm (h30 _ _ ?_); clear h30; try clear K30
                refine CW.seq (fun K31 h31 => ?_)
                refine CW.region ?_
                refine r_assign rfl ?_
                refine LW.nil ?_
                refine thenE_norm (h31 _ _ ?_); clear h31; try clear K31
                refine CW.ret (ret1 Try.results50 (by simp only [upd_get, ev, Nat.reduceEqDiff, ↓reduceIte]; rfl) ?_)
                rw [if_pos (by first | exact hc7 | simpa using hc7)] at hend
                rw [accR, hacc, if_pos rfl, ← hend]
                obtain ⟨FN', K⟩ := RAcA.mk (SH.sel H [0, 4] (by decide) (by rfl))
                exact ⟨_, rfl, K⟩
def trimR (s : AcS) (raws : List Vt) (d : Int) : List Vt := if d ≤ s.done ∨ 2305843009213693952 < d then raws else raws.filter fun r => !decide (r.slot ≤ d)
theorem trimR_r {K : Nat → Prop} {w : World} {s : AcS} {raws : List Vt} (d : Int) (h : VtsA K raws s.l w) : VtsA K (trimR s raws d) (trimM s d).l w := by
  rw [trimR, trimM]
  split
  · exact h
  · exact all2_filt vtr_key (fun z => !decide (z ≤ d)) h
set_option maxHeartbeats 8000000 in
theorem RTrim_c {p : Nat} {s : AcS} {raws : List Vt} {FN : Nat → Prop} (d : Int) (w : World) (hN : RAcA p s.ballot s.done raws FN w) (hn : raws.length ≤ 1000) :
    Calls Try.prog 52 #[.pointer (some ⟨p, 0, none⟩), .int .i64 d] w fun e w' => ∃ FN', e = .returned (.tuple #[]) ∧ SH FN Non w w' [.P FN' (RAcA p (trimM s d).ballot (trimM s d).done (trimR s raws d) FN')] := by
  obtain ⟨v, g, hA⟩ := hN
  have H := SH.obj (G := Any) hA
  obtain ⟨s1, s2, s3⟩ := s
  dsimp only at H
  refine calls_of_CW Try.func52 rfl Try.ntmps52 (Nat.le_of_ble_eq_true rfl) ?_
  simp only [argE, argFrom, Nat.reduceAdd]
  refine CW.seq (fun K1 h1 => ?_)
  refine CW.seq (fun K2 h2 => ?_)
  refine CW.region ?_
  refine r_move rfl ?_
  refine r_move rfl ?_
  refine r_nilCheck rfl rfl ?_
  refine r_fieldAddrO rfl Try.underlying84 rfl Try.sizeOf3 (by decide) (show _ = 1 from rfl) rfl ?_
  refine r_load rfl Try.isAgg3 rfl (by first | exact SH.cellB H (by (repeat first | exact At.here | apply At.there); done) (by rfl) | exact SH.cellI H (by (repeat first | exact At.here | apply At.there); done) (by rfl) | assumption) ?_
  refine r_leq rfl rfl rfl ?_
  refine r_move rfl ?_
  refine' LW.grpOr (n := 3) (ts := [0, 1]) (d := 15) (tj := 12) rfl (fun hg0_7 => ?_) (fun hg0_7 => ?_) (fun σ => ?_)
  rotate_left
  · simp only [List.take_succ_cons, List.take_zero]
    have hg0_7P := hg0_7
    try simp only [decide_eq_true_eq, decide_eq_false_iff_not, Bool.and_eq_true, Bool.or_eq_true, Bool.and_eq_false_iff, Bool.or_eq_false_iff, Bool.not_eq_true', Bool.not_eq_false', beq_iff_eq, bne_iff_ne] at hg0_7P
    refine LW.want rfl rfl hg0_7 ?_
    refine r_move rfl ?_
    refine LW.want rfl rfl hg0_7 ?_
    refine r_gtr rfl rfl rfl ?_
    refine r_pickF rfl rfl hg0_7 ?_
    refine LW.nil (thenE_norm ⟨rfl, rfl, rfl⟩)
  · simp only [List.take_succ_cons, List.take_zero]
    refine LW.skip rfl (fun _ e => by cases e; decide) rfl hg0_7 ?_
    refine LW.skip rfl (fun _ e => by cases e; decide) rfl hg0_7 ?_
    refine r_pickT rfl rfl hg0_7 ?_
    refine LW.nil (thenE_norm ⟨rfl, rfl, rfl⟩)
  simp only [setL, keepE, upd_get, ev, Nat.reduceEqDiff, ↓reduceIte]; simp only [List.drop_succ_cons, List.drop_zero]
  refine LW.nil ?_
  refine thenE_norm (h2 _ _ ?_); clear h2; try clear K2
  refine CW.cond rfl (fun hc1 => ?_) (fun hc1 => ?_)
  · try simp only [decide_eq_true_eq, decide_eq_false_iff_not, Bool.and_eq_true, Bool.or_eq_true, Bool.and_eq_false_iff, Bool.or_eq_false_iff, Bool.not_eq_true', Bool.not_eq_false', beq_iff_eq, bne_iff_ne, ne_eq, Decidable.not_not] at hc1
    refine CW.ret (thenE_ret (ret0 Try.results52 ?_))
    have hh : d ≤ s2 ∨ 2305843009213693952 < d := by omega
    rw [trimR, trim_no (s := ⟨s1, s2, s3⟩) hh, if_pos (show d ≤ s2 ∨ 2305843009213693952 < d from hh)]
    obtain ⟨FN', K⟩ := RAcA.mk (SH.sel H [0, 1] (by decide) (by rfl))
    exact ⟨_, rfl, K⟩
  · try simp only [decide_eq_true_eq, decide_eq_false_iff_not, Bool.and_eq_true, Bool.or_eq_true, Bool.and_eq_false_iff, Bool.or_eq_false_iff, Bool.not_eq_true', Bool.not_eq_false', beq_iff_eq, bne_iff_ne, ne_eq, Decidable.not_not] at hc1
    refine CW.skip ?_
    refine thenE_norm (h1 _ _ ?_); clear h1; try clear K1
    refine CW.seq (fun K3 h3 => ?_)
    refine CW.region ?_
    refine r_move rfl ?_
    refine r_move rfl ?_
    refine r_nilCheck rfl rfl ?_
    refine r_fieldAddrO rfl Try.underlying84 rfl Try.sizeOf3 (by decide) (show _ = 1 from rfl) rfl ?_
    refine s_store H Try.sizeOf3 rfl (by simp only [upd_get, ev, Nat.reduceEqDiff, ↓reduceIte] <;> rfl) (by first | rfl | assumption | exact Rs.oneC (by first | assumption | exact SH.rsR H (by (repeat first | exact At.here | apply At.there); done) | exact SH.rsO H (by (repeat first | exact At.here | apply At.there); done) | exact (Rs.nil : Rs Non _ _ _)) | (simp only [List.all_cons, List.all_nil, Bool.and_true, Bool.and_eq_true, Row.cells, Cm.L, Rq.L, Tp.L, Bat.L, Vt.L]; (repeat' constructor) <;> first | rfl | assumption | exact Rs.oneC (by first | assumption | exact SH.rsR H (by (repeat first | exact At.here | apply At.there); done) | exact SH.rsO H (by (repeat first | exact At.here | apply At.there); done) | exact (Rs.nil : Rs Non _ _ _)))) (by (repeat first | exact At.here | apply At.there); done) (by first | (simp; done) | decide | omega) ?_
    clear H
    intro w1_4 H
    try dsimp only [replC, List.cons_append, List.nil_append, List.append_nil, agg, cellsL, Value.cells, List.toList_toArray, List.set_cons_zero, List.set_cons_succ, spliceL, List.take_succ_cons, List.take_zero, List.drop_succ_cons, List.drop_zero, List.length_cons, List.length_nil, Nat.reduceAdd, Row.cells, Cm.L, Rq.L, Tp.L, Bat.L, Vt.L] at H
    refine LW.nil ?_
    refine thenE_norm (h3 _ _ ?_); clear h3; try clear K3
    refine CW.seq (fun K4 h4 => ?_)
    refine CW.region ?_
    refine r_assign rfl ?_
    refine LW.nil ?_
    refine thenE_norm (h4 _ _ ?_); clear h4; try clear K4
    refine CW.seq (fun K5 h5 => ?_)
    refine CW.seq (fun K6 h6 => ?_)
    refine CW.region ?_
    refine r_assign rfl ?_
    refine LW.nil ?_
    refine thenE_norm (h6 _ _ ?_); clear h6; try clear K6
    refine CW.block ?_
    refine CW.loopR [0, 1] [4, 5] (fun m vs w' => ∃ (i : Nat) (u : Value) (gu : Option Nat), vs = [u, .int .i64 i] ∧ i ≤ raws.length ∧ m = raws.length - i ∧ SH FN Any w w' [.B p 84 [.int .i64 s1, .int .i64 d, v], .O 61 v raws g, .O 61 u ((raws.take i).filter fun r => !decide (r.slot ≤ d)) gu]) (raws.length) ?_ ?_
    · exact ⟨0, .slice none 0 0, none, rfl, by omega, by omega, by rw [List.take_zero, List.filter_nil]; exact H.addO (α := Vt) 61⟩
    try clear H
    rintro n1 vs1 wL1 σ ⟨i, u, gu, rfl, hi, rfl, H⟩
    simp only [setL, keepE, upd_get, ev, Nat.reduceEqDiff, ↓reduceIte]
    refine CW.seq (fun K7 h7 => ?_)
    refine CW.seq (fun K8 h8 => ?_)
    refine CW.region ?_
    refine r_move rfl ?_
    refine r_move rfl ?_
    refine r_nilCheck rfl rfl ?_
    refine r_fieldAddrO rfl Try.underlying84 rfl Try.sizeOf58 (by decide) (show _ = 2 from rfl) rfl ?_
    refine r_load rfl Try.isAgg58 rfl (by first | exact SH.cellB H (by (repeat first | exact At.here | apply At.there); done) (by rfl) | exact SH.cellI H (by (repeat first | exact At.here | apply At.there); done) (by rfl) | assumption) ?_
    first
      | refine r_lenV rfl Try.underlying58 (by simp only [upd_get, ev, Nat.reduceEqDiff, ↓reduceIte] <;> rfl) (by first | assumption | exact SH.rsR H (by (repeat first | exact At.here | apply At.there); done) | exact SH.rsO H (by (repeat first | exact At.here | apply At.there); done) | exact (Rs.nil : Rs Non _ _ _)) ?_
      | refine r_len rfl Try.underlying58 rfl ?_
    refine r_lss rfl rfl rfl ?_
    refine LW.nil ?_
    refine thenE_norm (h8 _ _ ?_); clear h8; try clear K8
    refine CW.cond rfl (fun hc2 => ?_) (fun hc2 => ?_)
    · try simp only [decide_eq_true_eq, decide_eq_false_iff_not, Bool.and_eq_true, Bool.or_eq_true, Bool.and_eq_false_iff, Bool.or_eq_false_iff, Bool.not_eq_true', Bool.not_eq_false', beq_iff_eq, bne_iff_ne, ne_eq, Decidable.not_not] at hc2
      refine CW.skip ?_
      refine thenE_norm (h7 _ _ ?_); clear h7; try clear K7
      refine CW.seq (fun K9 h9 => ?_)
      refine CW.block ?_
      refine CW.seq (fun K10 h10 => ?_)
      obtain ⟨y, hy⟩ := get_of_lt (show i < raws.length by omega)
      have hyo := (SH.rsO H (i := 1) rfl).2 _ (List.mem_of_getElem? hy)
      have htk := V.take_snoc hy
      have hfl : ((raws.take i).filter fun r => !decide (r.slot ≤ d)).length ≤ 1000 := Nat.le_trans (List.length_filter_le _ _) (by rw [List.length_take]; omega)
      obtain ⟨y1, y2, ⟨y3, y4, ⟨y5, y6⟩, y7, y8⟩⟩ := y
      have hyo8 : oneC y8 = true := List.all_eq_true.1 hyo y8 (by simp [Row.cells, Vt.L])
      refine CW.region ?_
      refine r_move rfl ?_
      refine r_nilCheck rfl rfl ?_
      refine r_fieldAddrO rfl Try.underlying84 rfl Try.sizeOf58 (by decide) (show _ = 2 from rfl) rfl ?_
      refine r_load rfl Try.isAgg58 rfl (by first | exact SH.cellB H (by (repeat first | exact At.here | apply At.there); done) (by rfl) | exact SH.cellI H (by (repeat first | exact At.here | apply At.there); done) (by rfl) | assumption) ?_
      refine r_move rfl ?_
      refine r_indexAddrV rfl Try.underlying58 (by simp only [upd_get, ev, Nat.reduceEqDiff, ↓reduceIte] <;> rfl) rfl (by first | assumption | exact SH.rsR H (by (repeat first | exact At.here | apply At.there); done) | exact SH.rsO H (by (repeat first | exact At.here | apply At.there); done) | exact (Rs.nil : Rs Non _ _ _)) (by exact Try.sizeOf61) (by omega) (by omega) ?_
      refine r_fieldAddrO rfl Try.underlying61 rfl Try.sizeOf3 (by decide) (show _ + 0 = _ from rfl) rfl ?_
      refine r_load rfl Try.isAgg3 rfl (by first | exact Rs.cell (by first | assumption | exact SH.rsR H (by (repeat first | exact At.here | apply At.there); done) | exact SH.rsO H (by (repeat first | exact At.here | apply At.there); done) | exact (Rs.nil : Rs Non _ _ _)) (by assumption) (by rfl) | exact Rs.cell0 (by first | assumption | exact SH.rsR H (by (repeat first | exact At.here | apply At.there); done) | exact SH.rsO H (by (repeat first | exact At.here | apply At.there); done) | exact (Rs.nil : Rs Non _ _ _)) (by assumption) (by rfl) | assumption) ?_
      refine r_move rfl ?_
      refine r_gtr rfl rfl rfl ?_
      refine LW.nil ?_
      refine thenE_norm ?_
      refine cut (K := K10) [0, 1, 4, 5, 38] (fun σ => ?_)
      simp only [setL, keepE, upd_get, ev, Nat.reduceEqDiff, ↓reduceIte]
      refine h10 _ _ ?_; clear h10; try clear K10
      refine CW.cond rfl (fun hc3 => ?_) (fun hc3 => ?_)
      · try simp only [decide_eq_true_eq, decide_eq_false_iff_not, Bool.and_eq_true, Bool.or_eq_true, Bool.and_eq_false_iff, Bool.or_eq_false_iff, Bool.not_eq_true', Bool.not_eq_false', beq_iff_eq, bne_iff_ne, ne_eq, Decidable.not_not] at hc3
        refine CW.region ?_
        refine r_move rfl ?_
        refine r_move rfl ?_
        refine r_nilCheck rfl rfl ?_
        refine r_fieldAddrO rfl Try.underlying84 rfl Try.sizeOf58 (by decide) (show _ = 2 from rfl) rfl ?_
        refine r_load rfl Try.isAgg58 rfl (by first | exact SH.cellB H (by (repeat first | exact At.here | apply At.there); done) (by rfl) | exact SH.cellI H (by (repeat first | exact At.here | apply At.there); done) (by rfl) | assumption) ?_
        refine r_move rfl ?_
        refine r_indexAddrV rfl Try.underlying58 (by simp only [upd_get, ev, Nat.reduceEqDiff, ↓reduceIte] <;> rfl) rfl (by first | assumption | exact SH.rsR H (by (repeat first | exact At.here | apply At.there); done) | exact SH.rsO H (by (repeat first | exact At.here | apply At.there); done) | exact (Rs.nil : Rs Non _ _ _)) (by exact Try.sizeOf61) (by omega) (by omega) ?_
        refine r_loadA rfl Try.isAgg61 Try.sizeOf61 rfl (by first | exact Rs.cells0 (by first | assumption | exact SH.rsR H (by (repeat first | exact At.here | apply At.there); done) | exact SH.rsO H (by (repeat first | exact At.here | apply At.there); done) | exact (Rs.nil : Rs Non _ _ _)) (by assumption)) (by rfl) ?_
        refine r_buildSliceA (vs := [_]) rfl Try.underlying58 Try.sizeOf61 Try.zeroValue61 rfl rfl rfl rfl (by simp only [List.map_cons, List.map_nil, List.toList_toArray, numbered, Nat.reduceAdd, upd_get, ev, Nat.reduceEqDiff, ↓reduceIte] <;> rfl) rfl (by intro v hv; simp only [List.mem_cons, List.not_mem_nil, or_false] at hv; rcases hv with rfl <;> rfl) ?_
        intro b7_8 w7_8 hb7_8 hs7_8 hE7_8 hB7_8
        replace H := SH.call H (SH.fromB hE7_8 hb7_8 hs7_8 hB7_8)
        clear hb7_8 hs7_8 hE7_8 hB7_8
        try dsimp only [replC, List.cons_append, List.nil_append, List.append_nil, agg, cellsL, Value.cells, List.toList_toArray, List.set_cons_zero, List.set_cons_succ, spliceL, List.take_succ_cons, List.take_zero, List.drop_succ_cons, List.drop_zero, List.length_cons, List.length_nil, Nat.reduceAdd, Row.cells, Cm.L, Rq.L, Tp.L, Bat.L, Vt.L] at H
        replace H := SH.row (b := b7_8) (xs := ([⟨y1, y2, ⟨y3, y4, ⟨y5, y6⟩, y7, y8⟩⟩] : List Vt)) (n := 1) (cap := 1) H (by (repeat first | exact At.here | apply At.there); done) (by simp only [flat, List.flatMap_cons, List.flatMap_nil, cellsL, agg, List.append_nil, List.cons_append, List.nil_append, List.toList_toArray, Row.cells, Cm.L, Rq.L, Tp.L, Bat.L, Vt.L] <;> rfl) (by intro x hx; first | rfl | (simp at hx; done) | (simp only [List.mem_cons, List.not_mem_nil, or_false] at hx; rcases hx with rfl <;> first | rfl | exact (by first | rfl | assumption | exact Rs.oneC (by first | assumption | exact SH.rsR H (by (repeat first | exact At.here | apply At.there); done) | exact SH.rsO H (by (repeat first | exact At.here | apply At.there); done) | exact (Rs.nil : Rs Non _ _ _)) | (simp only [List.all_cons, List.all_nil, Bool.and_true, Bool.and_eq_true, Row.cells, Cm.L, Rq.L, Tp.L, Bat.L, Vt.L]; (repeat' constructor) <;> first | rfl | assumption | exact Rs.oneC (by first | assumption | exact SH.rsR H (by (repeat first | exact At.here | apply At.there); done) | exact SH.rsO H (by (repeat first | exact At.here | apply At.there); done) | exact (Rs.nil : Rs Non _ _ _)))))) (by rfl) rfl (by decide)
        try dsimp only [replC, List.cons_append, List.nil_append, List.append_nil, agg, cellsL, Value.cells, List.toList_toArray, List.set_cons_zero, List.set_cons_succ, spliceL, List.take_succ_cons, List.take_zero, List.drop_succ_cons, List.drop_zero, List.length_cons, List.length_nil, Nat.reduceAdd, Row.cells, Cm.L, Rq.L, Tp.L, Bat.L, Vt.L] at H
        refine s_append H rfl Try.underlying58 Try.underlying58 Try.type61 rfl (by simp only [upd_get, ev, Nat.reduceEqDiff, ↓reduceIte] <;> rfl) (by simp only [upd_get, ev, Nat.reduceEqDiff, ↓reduceIte] <;> rfl) (by (repeat first | exact At.here | apply At.there); done) (by first | assumption | exact SH.rsR H (by (repeat first | exact At.here | apply At.there); done) | exact SH.rsO H (by (repeat first | exact At.here | apply At.there); done) | exact (Rs.nil : Rs Non _ _ _)) (by rfl) (by rfl) (by first | omega | (simp only [Try.t61, List.length_append, List.length_cons, List.length_nil, List.length_map, maxLen]; omega) | (simp [Try.t61, maxLen]; omega)) (by first | omega | (simp only [Try.t61, List.length_append, List.length_cons, List.length_nil, List.length_map, maxLen]; omega) | (simp [Try.t61, maxLen]; omega)) ?_
        clear H
        intro v7_9 w7_9 g7_9 H hN7_9
        try dsimp only [replC, List.cons_append, List.nil_append, List.append_nil] at H
        refine r_assign rfl ?_
        refine LW.nil ?_
        refine blockE_norm ?_
        refine thenE_norm (h9 _ _ ?_); clear h9; try clear K9
        refine CW.region ?_
        refine r_move rfl ?_
        refine r_add rfl rfl rfl (wr_i64 (by omega) (by omega)) ?_
        refine r_assign rfl ?_
        refine LW.nil ?_
        refine thenE_norm ⟨rfl, ?_⟩
        refine ⟨raws.length - (i + 1), by omega, i + 1, v7_9, g7_9, rfl, by omega, rfl, ?_⟩
        rw [htk, List.filter_append, List.filter_cons, if_pos (by rw [decide_eq_false (show ¬ y1 ≤ d by omega)]; rfl), List.filter_nil]
        exact SH.sel H [0, 1, 2] (by decide) rfl
      · try simp only [decide_eq_true_eq, decide_eq_false_iff_not, Bool.and_eq_true, Bool.or_eq_true, Bool.and_eq_false_iff, Bool.or_eq_false_iff, Bool.not_eq_true', Bool.not_eq_false', beq_iff_eq, bne_iff_ne, ne_eq, Decidable.not_not] at hc3
        refine CW.skip ?_
        refine blockE_norm ?_
        refine thenE_norm (h9 _ _ ?_); clear h9; try clear K9
        refine CW.region ?_
        refine r_move rfl ?_
        refine r_add rfl rfl rfl (wr_i64 (by omega) (by omega)) ?_
        refine r_assign rfl ?_
        refine LW.nil ?_
        refine thenE_norm ⟨rfl, ?_⟩
        refine ⟨raws.length - (i + 1), by omega, i + 1, u, gu, rfl, by omega, rfl, ?_⟩
        rw [htk, List.filter_append, List.filter_cons, if_neg (by rw [decide_eq_true (show y1 ≤ d by omega)]; decide), List.filter_nil, List.append_nil]
        exact H
    · try simp only [decide_eq_true_eq, decide_eq_false_iff_not, Bool.and_eq_true, Bool.or_eq_true, Bool.and_eq_false_iff, Bool.or_eq_false_iff, Bool.not_eq_true', Bool.not_eq_false', beq_iff_eq, bne_iff_ne, ne_eq, Decidable.not_not] at hc2
      refine CW.exit (thenE_exit (thenE_exit (blockE_hit ?_)))
      refine thenE_norm (h5 _ _ ?_); clear h5; try clear K5
      refine CW.region ?_
      refine r_move rfl ?_
      refine r_move rfl ?_
      refine r_nilCheck rfl rfl ?_
      refine r_fieldAddrO rfl Try.underlying84 rfl Try.sizeOf58 (by decide) (show _ = 2 from rfl) rfl ?_
      refine s_store H Try.sizeOf58 rfl (by simp only [upd_get, ev, Nat.reduceEqDiff, ↓reduceIte] <;> rfl) (by first | rfl | assumption | exact Rs.oneC (by first | assumption | exact SH.rsR H (by (repeat first | exact At.here | apply At.there); done) | exact SH.rsO H (by (repeat first | exact At.here | apply At.there); done) | exact (Rs.nil : Rs Non _ _ _)) | (simp only [List.all_cons, List.all_nil, Bool.and_true, Bool.and_eq_true, Row.cells, Cm.L, Rq.L, Tp.L, Bat.L, Vt.L]; (repeat' constructor) <;> first | rfl | assumption | exact Rs.oneC (by first | assumption | exact SH.rsR H (by (repeat first | exact At.here | apply At.there); done) | exact SH.rsO H (by (repeat first | exact At.here | apply At.there); done) | exact (Rs.nil : Rs Non _ _ _)))) (by (repeat first | exact At.here | apply At.there); done) (by first | (simp; done) | decide | omega) ?_
      clear H
      intro w8_4 H
      try dsimp only [replC, List.cons_append, List.nil_append, List.append_nil, agg, cellsL, Value.cells, List.toList_toArray, List.set_cons_zero, List.set_cons_succ, spliceL, List.take_succ_cons, List.take_zero, List.drop_succ_cons, List.drop_zero, List.length_cons, List.length_nil, Nat.reduceAdd, Row.cells, Cm.L, Rq.L, Tp.L, Bat.L, Vt.L] at H
      refine LW.nil ?_
      refine end0 Try.results52 ?_
      obtain rfl : i = raws.length := by omega
      rw [List.take_length] at H
      have hh : ¬ (d ≤ s2 ∨ 2305843009213693952 < d) := by omega
      rw [trimR, trim_go (s := ⟨s1, s2, s3⟩) hh, if_neg (show ¬ (d ≤ s2 ∨ 2305843009213693952 < d) from hh)]
      obtain ⟨FN', K⟩ := RAcA.mk (SH.sel H [0, 2] (by decide) (by rfl))
      exact ⟨_, rfl, K⟩
end Go.Proofs.Ytalieccfdmokmaa
