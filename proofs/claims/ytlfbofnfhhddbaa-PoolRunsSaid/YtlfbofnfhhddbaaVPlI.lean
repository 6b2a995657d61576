/-
  The walks of layer 19's laws, on: how many there is room for.
-/
import Derived.Test.YtlfbofnfhhddbaaVPlH
namespace Go.Proofs.Ytlfbofnfhhddbaa
set_option linter.unusedSimpArgs false
set_option linter.unusedVariables false
set_option maxRecDepth 20000
open Go.V Go.RowKit Go.ChangeShapes Go.WideShapes

theorem actR_may (c q : UInt8) : mayRq (actR c q) = true := by
  have hc := u8_256 c
  have hq := u8_256 q
  have h := cmdN_may q.toNat c.toNat q.toNat hq.1 hc.1 hq.1
  simp only [mayRq, actR, mayReqM, h, highM, Bool.and_true, Bool.and_eq_true]
  exact ⟨⟨⟨decide_eq_true (by omega), decide_eq_true (by omega)⟩, decide_eq_true (by omega)⟩, decide_eq_true (by omega)⟩
theorem actR_size (c q : UInt8) : (actR c q).cmd.name.size ≤ 9223372036854775807 := by
  have := nameN_size q.toNat q.toNat (u8_256 q).1
  show (nameN q.toNat q.toNat).size ≤ _
  omega
theorem actR_rng (c q : UInt8) : 0 ≤ (actR c q).client ∧ (actR c q).client < 8 ∧ 1 ≤ (actR c q).seq := by
  simp only [actR]
  omega
/-- A client's newest; 0 if it has none. -/
def clM (es : List Ent) (c : Int) : Int := match es.find? (isC c) with
  | some e => e.req.seq
  | none => 0
def difC (x y : Ent) : Prop := x.req.client ≠ y.req.client
/-- What is known of a queue and of the newest of each client. -/
def PInv (es : List Ent) (nw : List Int) : Prop := nw.length = 8 ∧ es.length ≤ 6 ∧ (∀ c : Nat, c < 8 → nw[c]? = some (clM es c)) ∧ (∀ e ∈ es, 1 ≤ e.req.seq) ∧ es.Pairwise difC
theorem isC_iff {c : Int} {e : Ent} : isC c e = true ↔ e.req.client = c := by simp [isC]
theorem find_erase {c d : Int} (h : d ≠ c) : ∀ es : List Ent, (es.eraseP (isC d)).find? (isC c) = es.find? (isC c)
  | [] => rfl
  | a :: t => by
    rw [List.eraseP_cons]
    by_cases ha : isC d a = true
    · have hb : isC c a = false := by rw [isC_iff] at ha; simp [isC, ha, h]
      rw [ha, cond_true, List.find?_cons, hb]
    · have ha' : isC d a = false := by simpa using ha
      rw [ha', cond_false, List.find?_cons, List.find?_cons, find_erase h t]
theorem find_gone {d : Int} : ∀ es : List Ent, es.Pairwise difC → (es.eraseP (isC d)).find? (isC d) = none
  | [], _ => rfl
  | a :: t, hp => by
    obtain ⟨h1, h2⟩ := List.pairwise_cons.1 hp
    rw [List.eraseP_cons]
    by_cases ha : isC d a = true
    · rw [ha, cond_true, List.find?_eq_none]
      intro x hx hq
      rw [isC_iff] at ha hq
      exact h1 x hx (ha.trans hq.symm)
    · have ha' : isC d a = false := by simpa using ha
      rw [ha', cond_false, List.find?_cons, ha', find_gone t h2]
theorem pair_snoc {es : List Ent} {r : Rq} {now : Int} (hp : es.Pairwise difC) (hn : es.find? (isC r.client) = none) : (es ++ [newE r now]).Pairwise difC := by
  refine List.pairwise_append.2 ⟨hp, by simp, fun a ha b hb => ?_⟩
  rw [List.mem_singleton] at hb
  subst hb
  have := List.find?_eq_none.1 hn a ha
  intro e
  exact this (isC_iff.2 e)
theorem cl_snoc {es : List Ent} {r : Rq} {now : Int} (c : Int) (hn : es.find? (isC r.client) = none) : clM (es ++ [newE r now]) c = if c = r.client then r.seq else clM es c := by
  unfold clM
  rw [List.find?_append]
  by_cases h : c = r.client
  · subst h
    rw [hn, if_pos rfl]
    simp [isC, newE]
  · rw [if_neg h]
    have : List.find? (isC c) [newE r now] = none := by simp [isC, newE, Ne.symm h]
    rw [this, Option.or_none]
theorem cl_erase {es : List Ent} {d : Int} (c : Int) (h : d ≠ c) : clM (es.eraseP (isC d)) c = clM es c := by unfold clM; rw [find_erase h]
theorem has_cl {es : List Ent} {nw : List Int} (h : PInv es nw) (c : Int) : hasM es c (clM es c) = decide (0 < clM es c) := by
  unfold hasM clM
  cases hf : es.find? (isC c) with
  | none =>
    simp only
    rw [show decide ((0 : Int) < 0) = false from rfl, List.any_eq_false]
    intro x hx
    have := List.find?_eq_none.1 hf x hx
    rw [isC_iff] at this
    simp [isR, this]
  | some e =>
    have h1 := List.find?_some hf
    have h2 := List.mem_of_find?_eq_some hf
    have h3 := h.2.2.2.1 e h2
    simp only
    rw [decide_eq_true (by omega), List.any_eq_true]
    exact ⟨e, h2, by rw [isC_iff] at h1; simp [isR, h1]⟩
theorem nw_set {es es' : List Ent} {nw : List Int} {c : Nat} {q : Int} (hc : c < 8) (hl : nw.length = 8) (h : ∀ d : Nat, d < 8 → nw[d]? = some (clM es d)) (h' : ∀ d : Int, clM es' d = if d = c then q else clM es d) : ∀ d : Nat, d < 8 → (nw.set c q)[d]? = some (clM es' d) := by
  intro d hd
  rw [h']
  by_cases e : c = d
  · subst e
    rw [List.getElem?_set_self (by omega), if_pos rfl]
  · rw [List.getElem?_set_ne e, h d hd, if_neg (by omega)]
theorem room_old {es : List Ent} {nw : List Int} {r : Rq} (now : Int) (h : PInv es nw) (hm : mayRq r = true) (hq : 1 ≤ r.seq) (hg : r.seq ≤ clM es r.client) : addM es r now = (es, 7) := by
  rw [addM, if_pos hm]
  unfold clM at hg
  cases hf : es.find? (isC r.client) with
  | none => rw [hf] at hg; simp only at hg; omega
  | some e => rw [hf] at hg; simp only at hg ⊢; rw [if_pos hg]
theorem cl_zero {es : List Ent} {nw : List Int} {c : Int} (h : PInv es nw) (hz : clM es c = 0) : es.find? (isC c) = none := by
  unfold clM at hz
  cases hf : es.find? (isC c) with
  | none => rfl
  | some e =>
    rw [hf] at hz
    have := h.2.2.2.1 e (List.mem_of_find?_eq_some hf)
    simp only at hz
    omega
theorem room_full {es : List Ent} {nw : List Int} {r : Rq} (now : Int) (h : PInv es nw) (hm : mayRq r = true) (hz : clM es r.client = 0) (hl : es.length = 6) : addM es r now = (es, 5) := by
  rw [addM, if_pos hm, cl_zero h hz]
  simp only
  rw [if_pos (by omega)]
theorem room_new {es : List Ent} {nw : List Int} {r : Rq} {c : Nat} (now : Int) (h : PInv es nw) (hm : mayRq r = true) (hq : 1 ≤ r.seq) (hc : r.client = c) (h8 : c < 8) (hz : clM es r.client = 0) (hl : ¬ es.length = 6) : addM es r now = (es ++ [newE r now], 0) ∧ PInv (es ++ [newE r now]) (nw.set c r.seq) := by
  have hn := cl_zero h hz
  obtain ⟨p1, p2, p3, p4, p5⟩ := h
  refine ⟨?_, by rw [List.length_set]; exact p1, by simp; omega, nw_set h8 p1 p3 (fun d => by rw [cl_snoc d hn, hc]), fun e he => ?_, pair_snoc p5 hn⟩
  · rw [addM, if_pos hm, hn]
    simp only
    rw [if_neg (by omega)]
  · rcases List.mem_append.1 he with he | he
    · exact p4 e he
    · rw [List.mem_singleton] at he; subst he; exact hq
theorem room_again {es : List Ent} {nw : List Int} {r : Rq} {c : Nat} (now : Int) (h : PInv es nw) (hm : mayRq r = true) (hq : 1 ≤ r.seq) (hc : r.client = c) (h8 : c < 8) (hz : clM es r.client ≠ 0) (hg : ¬ r.seq ≤ clM es r.client) :
    addM es r now = (es.eraseP (isC r.client) ++ [newE r now], 0) ∧ PInv (es.eraseP (isC r.client) ++ [newE r now]) (nw.set c r.seq) ∧ (es.eraseP (isC r.client) ++ [newE r now]).length = es.length := by
  obtain ⟨p1, p2, p3, p4, p5⟩ := h
  have hn := find_gone (d := r.client) es p5
  have hp := p5.sublist (List.eraseP_sublist (p := isC r.client) (l := es))
  cases hf : es.find? (isC r.client) with
  | none => unfold clM at hz; rw [hf] at hz; exact absurd rfl hz
  | some e =>
    have hmem := List.mem_of_find?_eq_some hf
    have hlen : (es.eraseP (isC r.client)).length = es.length - 1 := List.length_eraseP_of_mem hmem (List.find?_some hf)
    have hpos : 0 < es.length := List.length_pos_of_mem hmem
    have hl2 : (es.eraseP (isC r.client) ++ [newE r now]).length = es.length := by rw [List.length_append, hlen, List.length_singleton]; omega
    have hg2 : ¬ r.seq ≤ e.req.seq := by unfold clM at hg; rw [hf] at hg; exact hg
    refine ⟨?_, ⟨by rw [List.length_set]; exact p1, by omega, nw_set (es := es) h8 p1 p3 (fun d => ?_), fun x hx => ?_, pair_snoc hp hn⟩, hl2⟩
    · rw [addM, if_pos hm, hf]
      simp only
      rw [if_neg hg2]
    · rw [cl_snoc d hn, hc]
      by_cases q : d = c
      · rw [if_pos q, if_pos q]
      · rw [if_neg q, if_neg q, cl_erase d (by omega)]
    · rcases List.mem_append.1 hx with hx | hx
      · exact p4 x (List.mem_of_mem_eraseP hx)
      · rw [List.mem_singleton] at hx; subst hx; exact hq
theorem last_req (es : List Ent) (r : Rq) (now : Int) : ((es ++ [newE r now]).map Ent.req)[(((es ++ [newE r now]).length : Int) - 1).toNat]? = some r := by
  have : (((es ++ [newE r now]).length : Int) - 1).toNat = es.length := by simp
  rw [this]
  simp [newE]
def i64L (l : List Int) : List Value := l.map (Value.int .i64)
set_option maxHeartbeats 4000000 in
theorem PoolRoom_c {F : Nat → Prop} {v : Value} {acts : List ActP} (w : World) (hv : Rs F w v acts) :
    Calls Try.prog 4 #[v] w fun e w' => e = .returned (.bool true) ∧ Ext0 w w' := by
  have H := (SH.start w).arg hv
  have h63 := hv.len63
  refine calls_of_CW Try.func4 rfl Try.ntmps4 (Nat.le_of_ble_eq_true rfl) ?_
  simp only [argE, argFrom, Nat.reduceAdd]
  refine CW.seq (fun K1 h1 => ?_)
  refine CW.region ?_
  refine r_assign rfl ?_
  refine LW.nil ?_
  refine thenE_norm (h1 _ _ ?_); clear h1; try clear K1
  refine CW.seq (fun K2 h2 => ?_)
  refine CW.seq (fun K3 h3 => ?_)
  refine CW.region ?_
  refine r_move rfl ?_
  first
    | refine r_lenV rfl Try.underlying34 (by simp only [upd_get, ev, Nat.reduceEqDiff, ↓reduceIte] <;> rfl) (by first | assumption | exact SH.rsR H (by (repeat first | exact At.here | apply At.there); done) | exact SH.rsO H (by (repeat first | exact At.here | apply At.there); done) | exact (Rs.nil : Rs Non _ _ _)) ?_
    | refine r_len rfl Try.underlying34 rfl ?_
  refine r_gtr rfl rfl rfl ?_
  refine LW.nil ?_
  refine thenE_norm (h3 _ _ ?_); clear h3; try clear K3
  refine CW.cond rfl (fun hc1 => ?_) (fun hc1 => ?_)
  · try simp only [decide_eq_true_eq, decide_eq_false_iff_not, Bool.and_eq_true, Bool.or_eq_true, Bool.and_eq_false_iff, Bool.or_eq_false_iff, Bool.not_eq_true', Bool.not_eq_false', beq_iff_eq, bne_iff_ne, ne_eq, Decidable.not_not] at hc1
    refine CW.seq (fun K4 h4 => ?_)
    refine CW.region ?_
    refine r_call rfl Try.call21 (by simp only [List.map_cons, List.map_nil, List.map_toArray, List.toList_toArray, upd_get, ev, Nat.reduceEqDiff, ↓reduceIte] <;> rfl) (awake19_c _) ?_
    rintro _ w2_0 ⟨rfl, X⟩
    refine ⟨_, rfl, ?_⟩
    replace H := SH.same H X
    clear X
    refine r_assign rfl ?_
    refine LW.nil ?_
    refine thenE_norm (h4 _ _ ?_); clear h4; try clear K4
    refine CW.ret (thenE_ret (ret1 Try.results4 (by simp only [upd_get, ev, Nat.reduceEqDiff, ↓reduceIte]; rfl) ?_))
    exact ⟨rfl, H.ext⟩
  · try simp only [decide_eq_true_eq, decide_eq_false_iff_not, Bool.and_eq_true, Bool.or_eq_true, Bool.and_eq_false_iff, Bool.or_eq_false_iff, Bool.not_eq_true', Bool.not_eq_false', beq_iff_eq, bne_iff_ne, ne_eq, Decidable.not_not] at hc1
    refine CW.skip ?_
    refine thenE_norm (h2 _ _ ?_); clear h2; try clear K2
    refine CW.seq (fun K5 h5 => ?_)
    refine CW.region ?_
    refine r_call rfl Try.call18 (by simp only [List.map_cons, List.map_nil, List.map_toArray, List.toList_toArray, upd_get, ev, Nat.reduceEqDiff, ↓reduceIte] <;> rfl) (PoolNew_c _) ?_
    rintro _ w3_0 ⟨p, FN, rfl, K⟩
    refine ⟨_, rfl, ?_⟩
    replace H := SH.call H K
    clear K
    try dsimp only [replC, List.cons_append, List.nil_append, List.append_nil] at H
    refine r_assign rfl ?_
    refine LW.nil ?_
    refine thenE_norm (h5 _ _ ?_); clear h5; try clear K5
    refine CW.seq (fun K6 h6 => ?_)
    refine CW.seq (fun K7 h7 => ?_)
    refine CW.region ?_
    refine r_move rfl ?_
    refine r_eqlP rfl Try.underlying22 rfl rfl ?_
    refine LW.nil ?_
    refine thenE_norm ?_
    refine cut (K := K7) [0, 3, 18] (fun σ => ?_)
    simp only [setL, keepE, upd_get, ev, Nat.reduceEqDiff, ↓reduceIte]
    refine h7 _ _ ?_; clear h7; try clear K7
    refine CW.condF rfl (by first | rfl | (simp only [decide_eq_true_eq, decide_eq_false_iff_not, Bool.and_eq_true, Bool.or_eq_true, Bool.and_eq_false_iff, Bool.or_eq_false_iff, Bool.not_eq_true', Bool.not_eq_false', beq_iff_eq, bne_iff_ne]; omega) | simp_all) ?_
    refine CW.skip ?_
    refine thenE_norm (h6 _ _ ?_); clear h6; try clear K6
    refine CW.seq (fun K8 h8 => ?_)
    refine CW.region ?_
    refine s_alloc (cs := [.int .i64 0, .int .i64 0, .int .i64 0, .int .i64 0, .int .i64 0, .int .i64 0, .int .i64 0, .int .i64 0]) H rfl Try.zeroValue35 rfl ?_
    clear H
    intro b6_0 w6_0 H
    try dsimp only [replC, List.cons_append, List.nil_append, List.append_nil, agg, cellsL, Value.cells, List.toList_toArray, List.set_cons_zero, List.set_cons_succ, spliceL, List.take_succ_cons, List.take_zero, List.drop_succ_cons, List.drop_zero, List.length_cons, List.length_nil, Nat.reduceAdd, Row.cells, Cm.L, Rq.L, Ent.L, ActP.L] at H
    refine LW.nil ?_
    refine thenE_norm (h8 _ _ ?_); clear h8; try clear K8
    refine CW.seq (fun K9 h9 => ?_)
    refine CW.region ?_
    refine r_assign rfl ?_
    refine LW.nil ?_
    refine thenE_norm (h9 _ _ ?_); clear h9; try clear K9
    refine CW.seq (fun K10 h10 => ?_)
    refine CW.seq (fun K11 h11 => ?_)
    refine CW.region ?_
    refine r_assign rfl ?_
    refine LW.nil ?_
    refine thenE_norm (h11 _ _ ?_); clear h11; try clear K11
    refine CW.block ?_
    refine CW.loopR [0, 3, 4] [5, 6] (fun m vs w' => ∃ (i : Nat) (es : List Ent) (nw : List Int) (FN : Nat → Prop), vs = [.int .i64 es.length, .int .i64 i] ∧ i ≤ acts.length ∧ m = acts.length - i ∧ PInv es nw ∧ SH Non Any w w' [.R (Old w) v acts, .P FN (PoolA p es FN), .B b6_0 35 (i64L nw)]) (acts.length) ?_ ?_
    · exact ⟨0, [], [0, 0, 0, 0, 0, 0, 0, 0], _, rfl, by omega, by omega, ⟨rfl, by simp, fun c hc => by rw [show clM [] c = 0 from rfl]; (repeat (cases c with | zero => rfl | succ c => _)); omega, by simp, by simp⟩, H⟩
    try clear H
    rintro n1 vs1 wL1 σ ⟨i, es, nw, FN, rfl, hi, rfl, hI, H⟩
    simp only [setL, keepE, upd_get, ev, Nat.reduceEqDiff, ↓reduceIte]
    refine CW.seq (fun K12 h12 => ?_)
    refine CW.seq (fun K13 h13 => ?_)
    refine CW.region ?_
    refine r_move rfl ?_
    refine r_move rfl ?_
    first
      | refine r_lenV rfl Try.underlying34 (by simp only [upd_get, ev, Nat.reduceEqDiff, ↓reduceIte] <;> rfl) (by first | assumption | exact SH.rsR H (by (repeat first | exact At.here | apply At.there); done) | exact SH.rsO H (by (repeat first | exact At.here | apply At.there); done) | exact (Rs.nil : Rs Non _ _ _)) ?_
      | refine r_len rfl Try.underlying34 rfl ?_
    refine r_lss rfl rfl rfl ?_
    refine LW.nil ?_
    refine thenE_norm (h13 _ _ ?_); clear h13; try clear K13
    refine CW.cond rfl (fun hc3 => ?_) (fun hc3 => ?_)
    · try simp only [decide_eq_true_eq, decide_eq_false_iff_not, Bool.and_eq_true, Bool.or_eq_true, Bool.and_eq_false_iff, Bool.or_eq_false_iff, Bool.not_eq_true', Bool.not_eq_false', beq_iff_eq, bne_iff_ne, ne_eq, Decidable.not_not] at hc3
      refine CW.skip ?_
      refine thenE_norm (h12 _ _ ?_); clear h12; try clear K12
      refine CW.seq (fun K14 h14 => ?_)
      refine CW.block ?_
      refine CW.seq (fun K15 h15 => ?_)
      obtain ⟨a, ha⟩ := get_of_lt (show i < acts.length by omega)
      have hmay := actR_may a.client a.seq
      have hsz := actR_size a.client a.seq
      have hrs := actR_rng a.client a.seq
      refine CW.region ?_
      refine r_move rfl ?_
      refine r_move rfl ?_
      refine r_indexAddrV rfl Try.underlying34 (by simp only [upd_get, ev, Nat.reduceEqDiff, ↓reduceIte] <;> rfl) rfl (by first | assumption | exact SH.rsR H (by (repeat first | exact At.here | apply At.there); done) | exact SH.rsO H (by (repeat first | exact At.here | apply At.there); done) | exact (Rs.nil : Rs Non _ _ _)) (by exact Try.sizeOf38) (by omega) (by omega) ?_
      refine r_loadA rfl Try.isAgg38 Try.sizeOf38 rfl (by first | exact Rs.cells0 (by first | assumption | exact SH.rsR H (by (repeat first | exact At.here | apply At.there); done) | exact SH.rsO H (by (repeat first | exact At.here | apply At.there); done) | exact (Rs.nil : Rs Non _ _ _)) (by assumption)) (by rfl) ?_
      refine r_call rfl Try.call22 (by simp only [List.map_cons, List.map_nil, List.map_toArray, List.toList_toArray, upd_get, ev, Nat.reduceEqDiff, ↓reduceIte] <;> rfl) (req_c _ _) ?_
      rintro _ w11_4 ⟨rfl, X⟩
      refine ⟨_, rfl, ?_⟩
      replace H := SH.same H X
      clear X
      generalize hR : actR a.client a.seq = r at *
      obtain ⟨hr0, hr8, hrq⟩ := hrs
      obtain ⟨c, hc⟩ := Int.eq_ofNat_of_zero_le hr0
      have hc8 : c < 8 := by omega
      have hes6 := hI.2.1
      have hnl : (i64L nw).length = 8 := by rw [i64L, List.length_map]; exact hI.1
      have hcell : (i64L nw)[0 + r.client.toNat * 1]? = some (.int .i64 (clM es r.client)) := by
        rw [show 0 + r.client.toNat * 1 = c by omega, i64L, List.getElem?_map, hI.2.2.1 c hc8, hc]; rfl
      refine s_alloc (cs := [.int .i64 0, .int .i64 0, .int .i64 0, .int .i64 0, .string (ByteArray.mk #[])]) H rfl Try.zeroValue29 rfl ?_
      clear H
      intro b11_5 w11_5 H
      try dsimp only [replC, List.cons_append, List.nil_append, List.append_nil, agg, cellsL, Value.cells, List.toList_toArray, List.set_cons_zero, List.set_cons_succ, spliceL, List.take_succ_cons, List.take_zero, List.drop_succ_cons, List.drop_zero, List.length_cons, List.length_nil, Nat.reduceAdd, Row.cells, Cm.L, Rq.L, Ent.L, ActP.L] at H
      refine s_storeA H Try.sizeOf29 rfl (by simp only [upd_get, ev, Nat.reduceEqDiff, ↓reduceIte] <;> rfl) (by simp only [cellsL, agg, List.toList_toArray, Row.cells, Cm.L, Rq.L, Ent.L, ActP.L] <;> rfl) (by rfl) (by first | rfl | assumption | exact Rs.oneC (by first | assumption | exact SH.rsR H (by (repeat first | exact At.here | apply At.there); done) | exact SH.rsO H (by (repeat first | exact At.here | apply At.there); done) | exact (Rs.nil : Rs Non _ _ _)) | (simp only [List.all_cons, List.all_nil, Bool.and_true, Bool.and_eq_true, Row.cells, Cm.L, Rq.L, Ent.L, ActP.L]; (repeat' constructor) <;> first | rfl | assumption | exact Rs.oneC (by first | assumption | exact SH.rsR H (by (repeat first | exact At.here | apply At.there); done) | exact SH.rsO H (by (repeat first | exact At.here | apply At.there); done) | exact (Rs.nil : Rs Non _ _ _)))) (by (repeat first | exact At.here | apply At.there); done) (by first | (simp; done) | decide | (show _ ≤ _; decide)) ?_
      clear H
      intro w11_6 H
      try dsimp only [replC, List.cons_append, List.nil_append, List.append_nil, agg, cellsL, Value.cells, List.toList_toArray, List.set_cons_zero, List.set_cons_succ, spliceL, List.take_succ_cons, List.take_zero, List.drop_succ_cons, List.drop_zero, List.length_cons, List.length_nil, Nat.reduceAdd, Row.cells, Cm.L, Rq.L, Ent.L, ActP.L] at H
      refine LW.nil ?_
      refine thenE_norm ?_
      refine cut (K := K15) [0, 3, 4, 5, 6, 7] (fun σ => ?_)
      simp only [setL, keepE, upd_get, ev, Nat.reduceEqDiff, ↓reduceIte]
      refine h15 _ _ ?_; clear h15; try clear K15
      refine CW.seq (fun K16 h16 => ?_)
      refine CW.drawP [0, 2, 3] [] H (by dsimp only [pickC, nthC] <;> rfl) (by repeat first | exact List.Sublist.refl _ | exact List.nil_sublist _ | apply List.Sublist.cons_cons | apply List.Sublist.cons) (by kernel_rfl) rfl ?_
      clear H
      intro w12d H
      refine DL.take (i := 0) [] rfl (by kernel_rfl) (by kernel_rfl) (by kernel_rfl) (by kernel_rfl) rfl rfl (fun u H => x_move ) (SH.sub H (by repeat first | exact List.Sublist.refl _ | exact List.nil_sublist _ | apply List.Sublist.cons_cons | apply List.Sublist.cons)) ?_
      refine DL.take (i := 1) [] rfl (by kernel_rfl) (by kernel_rfl) (by kernel_rfl) (by kernel_rfl) rfl rfl (fun u H => x_loadA Try.isAgg29 Try.sizeOf29 rfl (by first | exact SH.cells H (by (repeat first | exact At.here | apply At.there); done)) (by rfl)) (SH.sub H (by repeat first | exact List.Sublist.refl _ | exact List.nil_sublist _ | apply List.Sublist.cons_cons | apply List.Sublist.cons)) ?_
      refine DL.take (i := 2) [] rfl (by kernel_rfl) (by kernel_rfl) (by kernel_rfl) (by kernel_rfl) rfl rfl (fun u H => x_move ) (SH.sub H (by repeat first | exact List.Sublist.refl _ | exact List.nil_sublist _ | apply List.Sublist.cons_cons | apply List.Sublist.cons)) ?_
      refine DL.take (i := 3) [] rfl (by kernel_rfl) (by kernel_rfl) (by kernel_rfl) (by kernel_rfl) rfl rfl (fun u H => x_move ) (SH.sub H (by repeat first | exact List.Sublist.refl _ | exact List.nil_sublist _ | apply List.Sublist.cons_cons | apply List.Sublist.cons)) ?_
      refine DL.take (i := 4) [] rfl (by kernel_rfl) (by kernel_rfl) (by kernel_rfl) (by kernel_rfl) rfl rfl (fun u H => x_indexAddrV Try.underlying34 (by simp only [upd_get, ev, Nat.reduceEqDiff, ↓reduceIte] <;> rfl) rfl (by first | assumption | exact SH.rsR H (by (repeat first | exact At.here | apply At.there); done) | exact SH.rsO H (by (repeat first | exact At.here | apply At.there); done) | exact (Rs.nil : Rs Non _ _ _)) (by exact Try.sizeOf38) (by omega) (by omega)) (SH.sub H (by repeat first | exact List.Sublist.refl _ | exact List.nil_sublist _ | apply List.Sublist.cons_cons | apply List.Sublist.cons)) ?_
      refine DL.take (i := 5) [] rfl (by kernel_rfl) (by kernel_rfl) (by kernel_rfl) (by kernel_rfl) rfl rfl (fun u H => x_fieldAddrO Try.underlying38 rfl Try.sizeOf3 (by decide) (show _ + 1 = _ from rfl) rfl) (SH.sub H (by repeat first | exact List.Sublist.refl _ | exact List.nil_sublist _ | apply List.Sublist.cons_cons | apply List.Sublist.cons)) ?_
      refine DL.take (i := 6) [] rfl (by kernel_rfl) (by kernel_rfl) (by kernel_rfl) (by kernel_rfl) rfl rfl (fun u H => x_load Try.isAgg3 rfl (by first | exact Rs.cell (by first | assumption | exact SH.rsR H (by (repeat first | exact At.here | apply At.there); done) | exact SH.rsO H (by (repeat first | exact At.here | apply At.there); done) | exact (Rs.nil : Rs Non _ _ _)) (by assumption) (by rfl) | exact Rs.cell0 (by first | assumption | exact SH.rsR H (by (repeat first | exact At.here | apply At.there); done) | exact SH.rsO H (by (repeat first | exact At.here | apply At.there); done) | exact (Rs.nil : Rs Non _ _ _)) (by assumption) (by rfl) | assumption)) (SH.sub H (by repeat first | exact List.Sublist.refl _ | exact List.nil_sublist _ | apply List.Sublist.cons_cons | apply List.Sublist.cons)) ?_
      refine DL.one (i := 7) (by kernel_rfl) rfl rfl ?_
      refine r_call rfl Try.call19 (by simp only [List.map_cons, List.map_nil, List.map_toArray, List.toList_toArray, upd_get, ev, Nat.reduceEqDiff, ↓reduceIte] <;> rfl) (Add_c ⟨_, _, ⟨_, _, _⟩⟩ _ _ (SH.prop H (by (repeat first | exact At.here | apply At.there); done)) (by first | assumption | decide)) ?_
      rintro _ w12_7 ⟨FN12_7, rfl, K⟩
      refine ⟨_, rfl, ?_⟩
      replace H := SH.updP H (by (repeat first | exact At.here | apply At.there); done) K
      clear K
      try dsimp only [replC, List.cons_append, List.nil_append, List.append_nil] at H
      refine LW.nil (thenE_norm ⟨fun _ => (SH.sub H (by repeat first | exact List.Sublist.refl _ | exact List.nil_sublist _ | apply List.Sublist.cons_cons | apply List.Sublist.cons)), ?_⟩)
      refine DL.take (i := 8) [] rfl (by kernel_rfl) (by kernel_rfl) (by kernel_rfl) (by kernel_rfl) rfl rfl (fun u H => x_assign ) (SH.sub H (by repeat first | exact List.Sublist.refl _ | exact List.nil_sublist _ | apply List.Sublist.cons_cons | apply List.Sublist.cons)) ?_
      refine DL.done (by kernel_rfl) ?_
      refine thenE_norm ?_
      refine cut (K := K16) [0, 3, 4, 5, 6, 7, 8] (fun σ => ?_)
      simp only [setL, keepE, upd_get, ev, Nat.reduceEqDiff, ↓reduceIte]
      refine h16 _ _ ?_; clear h16; try clear K16
      refine CW.seq (fun K17 h17 => ?_)
      refine CW.region ?_
      refine r_assign rfl ?_
      refine LW.nil ?_
      refine thenE_norm (h17 _ _ ?_); clear h17; try clear K17
      refine CW.seqJ [0, 3, 4, 6, 7, 8] [5, 9] (fun vs w' => ∃ nw' : List Int, vs = [.int .i64 ((addM es r a.now).1.length : Nat), .int .i64 (addM es r a.now).2] ∧ PInv (addM es r a.now).1 nw' ∧ ((addM es r a.now).2 = 0 → ∃ l, (addM es r a.now).1 = l ++ [newE r a.now]) ∧ SH Non Any w w' [.R (Old w) v acts, .P FN12_7 (PoolA p (addM es r a.now).1 FN12_7), .B b6_0 35 (i64L nw'), .B b11_5 29 (Row.cells r)]) ?_ ?_
      · refine CW.block ?_
        refine CW.seq (fun K19 h19 => ?_)
        refine CW.drawH [] H (List.Sublist.refl _) (by kernel_rfl) rfl ?_
        clear H
        intro w17d H
        refine DL.take (i := 0) [] rfl (by kernel_rfl) (by kernel_rfl) (by kernel_rfl) (by kernel_rfl) rfl rfl (fun u H => x_fieldAddrO Try.underlying29 rfl Try.sizeOf3 (by decide) (show _ = 0 from rfl) rfl) H ?_
        refine DL.take (i := 1) [] rfl (by kernel_rfl) (by kernel_rfl) (by kernel_rfl) (by kernel_rfl) rfl rfl (fun u H => x_load Try.isAgg3 rfl (by first | exact SH.cellB H (by (repeat first | exact At.here | apply At.there); done) (by rfl) | assumption)) H ?_
        refine DL.take (i := 2) [] rfl (by kernel_rfl) (by kernel_rfl) (by kernel_rfl) (by kernel_rfl) rfl rfl (fun u H => x_indexAddrA Try.underlying35 rfl rfl (by exact Try.sizeOf3) (by omega) (by omega)) H ?_
        refine DL.take (i := 3) [] rfl (by kernel_rfl) (by kernel_rfl) (by kernel_rfl) (by kernel_rfl) rfl rfl (fun u H => x_load Try.isAgg3 rfl ((SH.blk H (i := 2) rfl).cell (o := 0 + r.client.toNat * 1) hcell)) H ?_
        refine DL.take (i := 4) [] rfl (by kernel_rfl) (by kernel_rfl) (by kernel_rfl) (by kernel_rfl) rfl rfl (fun u H => x_fieldAddrO Try.underlying29 rfl Try.sizeOf3 (by decide) (show _ = 1 from rfl) rfl) H ?_
        refine DL.take (i := 5) [] rfl (by kernel_rfl) (by kernel_rfl) (by kernel_rfl) (by kernel_rfl) rfl rfl (fun u H => x_load Try.isAgg3 rfl (by first | exact SH.cellB H (by (repeat first | exact At.here | apply At.there); done) (by rfl) | assumption)) H ?_
        refine DL.take (i := 6) [] rfl (by kernel_rfl) (by kernel_rfl) (by kernel_rfl) (by kernel_rfl) rfl rfl (fun u H => x_geq rfl rfl) H ?_
        refine DL.take (i := 7) [] rfl (by kernel_rfl) (by kernel_rfl) (by kernel_rfl) (by kernel_rfl) rfl rfl (fun u H => x_assign ) H ?_
        refine DL.done (by kernel_rfl) ?_
        refine thenE_norm ?_
        refine cut (K := K19) [0, 3, 4, 5, 6, 7, 8, 9, 50] (fun σ => ?_)
        simp only [setL, keepE, upd_get, ev, Nat.reduceEqDiff, ↓reduceIte]
        refine h19 _ _ ?_; clear h19; try clear K19
        refine CW.cond rfl (fun hc4 => ?_) (fun hc4 => ?_)
        · try simp only [decide_eq_true_eq, decide_eq_false_iff_not, Bool.and_eq_true, Bool.or_eq_true, Bool.and_eq_false_iff, Bool.or_eq_false_iff, Bool.not_eq_true', Bool.not_eq_false', beq_iff_eq, bne_iff_ne, ne_eq, Decidable.not_not] at hc4
          refine CW.region ?_
          refine r_assign rfl ?_
          refine LW.nil ?_
          refine blockE_norm ?_
          refine thenE_norm ?_
          have hadd := room_old a.now hI hmay hrq (by omega)
          rw [hadd] at H ⊢
          exact ⟨rfl, nw, rfl, hI, by simp, H⟩
        · try simp only [decide_eq_true_eq, decide_eq_false_iff_not, Bool.and_eq_true, Bool.or_eq_true, Bool.and_eq_false_iff, Bool.or_eq_false_iff, Bool.not_eq_true', Bool.not_eq_false', beq_iff_eq, bne_iff_ne, ne_eq, Decidable.not_not] at hc4
          refine CW.seq (fun K20 h20 => ?_)
          refine CW.region ?_
          refine r_fieldAddrO rfl Try.underlying29 rfl Try.sizeOf3 (by decide) (show _ = 0 from rfl) rfl ?_
          refine r_load rfl Try.isAgg3 rfl (by first | exact SH.cellB H (by (repeat first | exact At.here | apply At.there); done) (by rfl) | assumption) ?_
          refine r_indexAddrA rfl Try.underlying35 rfl rfl (by exact Try.sizeOf3) (by omega) (by omega) ?_
          refine r_load rfl Try.isAgg3 rfl ((SH.blk H (i := 2) rfl).cell (o := 0 + r.client.toNat * 1) hcell) ?_
          refine r_eql rfl rfl rfl ?_
          refine r_move rfl ?_
          refine' LW.grpAnd (n := 3) (ts := [0, 3, 4, 5, 6, 7, 8, 9]) (d := 67) (tj := 64) rfl (fun hg19_6 => ?_) (fun hg19_6 => ?_) (fun σ => ?_)
          rotate_left
          · simp only [List.take_succ_cons, List.take_zero]
            have hg19_6P := hg19_6
            try simp only [decide_eq_true_eq, decide_eq_false_iff_not, Bool.and_eq_true, Bool.or_eq_true, Bool.and_eq_false_iff, Bool.or_eq_false_iff, Bool.not_eq_true', Bool.not_eq_false', beq_iff_eq, bne_iff_ne] at hg19_6P
            refine LW.want rfl rfl hg19_6 ?_
            refine r_move rfl ?_
            refine LW.want rfl rfl hg19_6 ?_
            refine r_eql rfl rfl rfl ?_
            refine r_pickT rfl rfl hg19_6 ?_
            refine LW.nil (thenE_norm ⟨rfl, rfl, rfl⟩)
          · simp only [List.take_succ_cons, List.take_zero]
            refine LW.skip rfl (fun _ e => by cases e; decide) rfl hg19_6 ?_
            refine LW.skip rfl (fun _ e => by cases e; decide) rfl hg19_6 ?_
            refine r_pickF rfl rfl hg19_6 ?_
            refine LW.nil (thenE_norm ⟨rfl, rfl, rfl⟩)
          simp only [setL, keepE, upd_get, ev, Nat.reduceEqDiff, ↓reduceIte]; simp only [List.drop_succ_cons, List.drop_zero]
          refine r_assign rfl ?_
          refine LW.nil ?_
          refine thenE_norm (h20 _ _ ?_); clear h20; try clear K20
          refine CW.cond rfl (fun hc5 => ?_) (fun hc5 => ?_)
          · try simp only [decide_eq_true_eq, decide_eq_false_iff_not, Bool.and_eq_true, Bool.or_eq_true, Bool.and_eq_false_iff, Bool.or_eq_false_iff, Bool.not_eq_true', Bool.not_eq_false', beq_iff_eq, bne_iff_ne, ne_eq, Decidable.not_not] at hc5
            refine CW.region ?_
            refine r_assign rfl ?_
            refine LW.nil ?_
            refine blockE_norm ?_
            refine thenE_norm ?_
            have hadd := room_full a.now hI hmay (by omega) (by omega)
            rw [hadd] at H ⊢
            exact ⟨rfl, nw, rfl, hI, by simp, H⟩
          · try simp only [decide_eq_true_eq, decide_eq_false_iff_not, Bool.and_eq_true, Bool.or_eq_true, Bool.and_eq_false_iff, Bool.or_eq_false_iff, Bool.not_eq_true', Bool.not_eq_false', beq_iff_eq, bne_iff_ne, ne_eq, Decidable.not_not] at hc5
            refine CW.seq (fun K21 h21 => ?_)
            refine CW.seq (fun K22 h22 => ?_)
            refine CW.region ?_
            refine r_fieldAddrO rfl Try.underlying29 rfl Try.sizeOf3 (by decide) (show _ = 0 from rfl) rfl ?_
            refine r_load rfl Try.isAgg3 rfl (by first | exact SH.cellB H (by (repeat first | exact At.here | apply At.there); done) (by rfl) | assumption) ?_
            refine r_indexAddrA rfl Try.underlying35 rfl rfl (by exact Try.sizeOf3) (by omega) (by omega) ?_
            refine r_load rfl Try.isAgg3 rfl ((SH.blk H (i := 2) rfl).cell (o := 0 + r.client.toNat * 1) hcell) ?_
            refine r_eql rfl rfl rfl ?_
            refine LW.nil ?_
            refine thenE_norm (h22 _ _ ?_); clear h22; try clear K22
            refine CW.cond rfl (fun hc6 => ?_) (fun hc6 => ?_)
            · try simp only [decide_eq_true_eq, decide_eq_false_iff_not, Bool.and_eq_true, Bool.or_eq_true, Bool.and_eq_false_iff, Bool.or_eq_false_iff, Bool.not_eq_true', Bool.not_eq_false', beq_iff_eq, bne_iff_ne, ne_eq, Decidable.not_not] at hc6
              refine CW.region ?_
              refine r_move rfl ?_
              refine r_add rfl rfl rfl (wr_i64 (by omega) (by omega)) ?_
              refine r_assign rfl ?_
              refine LW.nil ?_
              refine thenE_norm ?_
              refine cut (K := K21) [0, 3, 4, 5, 6, 7, 8, 9] (fun σ => ?_)
              simp only [setL, keepE, upd_get, ev, Nat.reduceEqDiff, ↓reduceIte]
              refine h21 _ _ ?_; clear h21; try clear K21
              refine CW.region ?_
              refine r_fieldAddrO rfl Try.underlying29 rfl Try.sizeOf3 (by decide) (show _ = 0 from rfl) rfl ?_
              refine r_load rfl Try.isAgg3 rfl (by first | exact SH.cellB H (by (repeat first | exact At.here | apply At.there); done) (by rfl) | assumption) ?_
              refine r_fieldAddrO rfl Try.underlying29 rfl Try.sizeOf3 (by decide) (show _ = 1 from rfl) rfl ?_
              refine r_load rfl Try.isAgg3 rfl (by first | exact SH.cellB H (by (repeat first | exact At.here | apply At.there); done) (by rfl) | assumption) ?_
              refine r_indexAddrA rfl Try.underlying35 rfl rfl (by exact Try.sizeOf3) (by omega) (by omega) ?_
              refine s_store H Try.sizeOf3 rfl (by simp only [upd_get, ev, Nat.reduceEqDiff, ↓reduceIte] <;> rfl) (by first | rfl | assumption | exact Rs.oneC (by first | assumption | exact SH.rsR H (by (repeat first | exact At.here | apply At.there); done) | exact SH.rsO H (by (repeat first | exact At.here | apply At.there); done) | exact (Rs.nil : Rs Non _ _ _)) | (simp only [List.all_cons, List.all_nil, Bool.and_true, Bool.and_eq_true, Row.cells, Cm.L, Rq.L, Ent.L, ActP.L]; (repeat' constructor) <;> first | rfl | assumption | exact Rs.oneC (by first | assumption | exact SH.rsR H (by (repeat first | exact At.here | apply At.there); done) | exact SH.rsO H (by (repeat first | exact At.here | apply At.there); done) | exact (Rs.nil : Rs Non _ _ _)))) (by (repeat first | exact At.here | apply At.there); done) (by first | (simp; done) | decide | omega) ?_
              clear H
              intro w16_5 H
              try dsimp only [replC, List.cons_append, List.nil_append, List.append_nil, agg, cellsL, Value.cells, List.toList_toArray, List.set_cons_zero, List.set_cons_succ, spliceL, List.take_succ_cons, List.take_zero, List.drop_succ_cons, List.drop_zero, List.length_cons, List.length_nil, Nat.reduceAdd, Row.cells, Cm.L, Rq.L, Ent.L, ActP.L] at H
              refine LW.nil ?_
              refine blockE_norm ?_
              refine thenE_norm ?_
              obtain ⟨hadd, hI2⟩ := room_new a.now hI hmay hrq hc hc8 (by omega) (by omega)
              rw [hadd] at H ⊢
              have e1 : (((es ++ [newE r a.now], (0 : Int)).1.length : Nat) : Int) = es.length + 1 := by simp
              exact ⟨rfl, _, by rw [e1]; rfl, hI2, fun _ => ⟨_, rfl⟩, by rw [show i64L (nw.set c r.seq) = (i64L nw).set (0 + r.client.toNat * 1) (.int .i64 r.seq) by rw [show 0 + r.client.toNat * 1 = c by omega, i64L, i64L, List.map_set]]; exact H⟩
            · try simp only [decide_eq_true_eq, decide_eq_false_iff_not, Bool.and_eq_true, Bool.or_eq_true, Bool.and_eq_false_iff, Bool.or_eq_false_iff, Bool.not_eq_true', Bool.not_eq_false', beq_iff_eq, bne_iff_ne, ne_eq, Decidable.not_not] at hc6
              refine CW.skip ?_
              refine thenE_norm (h21 _ _ ?_); clear h21; try clear K21
              refine CW.region ?_
              refine r_fieldAddrO rfl Try.underlying29 rfl Try.sizeOf3 (by decide) (show _ = 0 from rfl) rfl ?_
              refine r_load rfl Try.isAgg3 rfl (by first | exact SH.cellB H (by (repeat first | exact At.here | apply At.there); done) (by rfl) | assumption) ?_
              refine r_fieldAddrO rfl Try.underlying29 rfl Try.sizeOf3 (by decide) (show _ = 1 from rfl) rfl ?_
              refine r_load rfl Try.isAgg3 rfl (by first | exact SH.cellB H (by (repeat first | exact At.here | apply At.there); done) (by rfl) | assumption) ?_
              refine r_indexAddrA rfl Try.underlying35 rfl rfl (by exact Try.sizeOf3) (by omega) (by omega) ?_
              refine s_store H Try.sizeOf3 rfl (by simp only [upd_get, ev, Nat.reduceEqDiff, ↓reduceIte] <;> rfl) (by first | rfl | assumption | exact Rs.oneC (by first | assumption | exact SH.rsR H (by (repeat first | exact At.here | apply At.there); done) | exact SH.rsO H (by (repeat first | exact At.here | apply At.there); done) | exact (Rs.nil : Rs Non _ _ _)) | (simp only [List.all_cons, List.all_nil, Bool.and_true, Bool.and_eq_true, Row.cells, Cm.L, Rq.L, Ent.L, ActP.L]; (repeat' constructor) <;> first | rfl | assumption | exact Rs.oneC (by first | assumption | exact SH.rsR H (by (repeat first | exact At.here | apply At.there); done) | exact SH.rsO H (by (repeat first | exact At.here | apply At.there); done) | exact (Rs.nil : Rs Non _ _ _)))) (by (repeat first | exact At.here | apply At.there); done) (by first | (simp; done) | decide | omega) ?_
              clear H
              intro w16_5 H
              try dsimp only [replC, List.cons_append, List.nil_append, List.append_nil, agg, cellsL, Value.cells, List.toList_toArray, List.set_cons_zero, List.set_cons_succ, spliceL, List.take_succ_cons, List.take_zero, List.drop_succ_cons, List.drop_zero, List.length_cons, List.length_nil, Nat.reduceAdd, Row.cells, Cm.L, Rq.L, Ent.L, ActP.L] at H
              refine LW.nil ?_
              refine blockE_norm ?_
              refine thenE_norm ?_
              obtain ⟨hadd, hI2, hl2⟩ := room_again a.now hI hmay hrq hc hc8 (by omega) (by omega)
              rw [hadd] at H ⊢
              have e1 : (((es.eraseP (isC r.client) ++ [newE r a.now], (0 : Int)).1.length : Nat) : Int) = es.length := congrArg Nat.cast hl2
              exact ⟨rfl, _, by rw [e1]; rfl, hI2, fun _ => ⟨_, rfl⟩, by rw [show i64L (nw.set c r.seq) = (i64L nw).set (0 + r.client.toNat * 1) (.int .i64 r.seq) by rw [show 0 + r.client.toNat * 1 = c by omega, i64L, i64L, List.map_set]]; exact H⟩
      try clear H
      rintro vs wJ σ ⟨nw', rfl, hI', hlast, H⟩
      simp only [setL, keepE, upd_get, ev, Nat.reduceEqDiff, ↓reduceIte]
      refine CW.seq (fun K23 h23 => ?_)
      have hes6 := hI'.2.1
      refine CW.region ?_
      refine r_move rfl ?_
      refine r_call rfl Try.call23 (by simp only [List.map_cons, List.map_nil, List.map_toArray, List.toList_toArray, upd_get, ev, Nat.reduceEqDiff, ↓reduceIte] <;> rfl) (List_c _ (SH.prop H (by (repeat first | exact At.here | apply At.there); done))) ?_
      rintro _ w21_1 ⟨v21_1, g21_1, rfl, K⟩
      refine ⟨_, rfl, ?_⟩
      replace H := SH.call H K
      clear K
      try dsimp only [replC, List.cons_append, List.nil_append, List.append_nil] at H
      refine r_assign rfl ?_
      refine LW.nil ?_
      refine thenE_norm (h23 _ _ ?_); clear h23; try clear K23
      refine CW.seq (fun K24 h24 => ?_)
      refine CW.seq (fun K25 h25 => ?_)
      refine CW.drawH [] H (List.Sublist.refl _) (by kernel_rfl) rfl ?_
      clear H
      intro w22d H
      refine DL.take (i := 0) [] rfl (by kernel_rfl) (by kernel_rfl) (by kernel_rfl) (by kernel_rfl) rfl rfl (fun u H => x_move ) H ?_
      refine DL.take (i := 1) [] rfl (by kernel_rfl) (by kernel_rfl) (by kernel_rfl) (by kernel_rfl) rfl rfl (fun u H => x_move ) H ?_
      refine DL.take (i := 2) [] rfl (by kernel_rfl) (by kernel_rfl) (by kernel_rfl) (by kernel_rfl) rfl rfl (fun u H => x_neq rfl rfl) H ?_
      refine DL.take (i := 3) [] rfl (by kernel_rfl) (by kernel_rfl) (by kernel_rfl) (by kernel_rfl) rfl rfl (fun u H => x_move ) H ?_
      refine DL.known (t := 73) (c := false) rfl (by simp) (fun hg22_3 => ?_)
      refine DL.take (i := 4) [] rfl (by kernel_rfl) (by kernel_rfl) (by kernel_rfl) (by kernel_rfl) rfl (wantE rfl rfl hg22_3) (fun u H => x_move ) H ?_
      refine DL.take (i := 6) [] rfl (by kernel_rfl) (by kernel_rfl) (by kernel_rfl) (by kernel_rfl) rfl (wantE rfl rfl hg22_3) (fun u H => x_move ) H ?_
      refine DL.one (i := 5) (by kernel_rfl) rfl (wantE rfl rfl hg22_3) ?_
      refine r_call rfl Try.call24 (by simp only [List.map_cons, List.map_nil, List.map_toArray, List.toList_toArray, upd_get, ev, Nat.reduceEqDiff, ↓reduceIte] <;> rfl) (PLen_c _ (SH.prop H (by (repeat first | exact At.here | apply At.there); done))) ?_
      rintro _ _ ⟨rfl, rfl⟩
      refine ⟨_, rfl, ?_⟩
      refine LW.nil (thenE_norm ⟨fun _ => (SH.sub H (by repeat first | exact List.Sublist.refl _ | exact List.nil_sublist _ | apply List.Sublist.cons_cons | apply List.Sublist.cons)), ?_⟩)
      refine DL.take (i := 7) [] rfl (by kernel_rfl) (by kernel_rfl) (by kernel_rfl) (by kernel_rfl) rfl (wantE rfl rfl hg22_3) (fun u H => x_neq rfl rfl) (SH.sub H (by repeat first | exact List.Sublist.refl _ | exact List.nil_sublist _ | apply List.Sublist.cons_cons | apply List.Sublist.cons)) ?_
      refine DL.take (i := 8) [] rfl (by kernel_rfl) (by kernel_rfl) (by kernel_rfl) (by kernel_rfl) rfl rfl (fun u H => x_pickF rfl hg22_3) (SH.sub H (by repeat first | exact List.Sublist.refl _ | exact List.nil_sublist _ | apply List.Sublist.cons_cons | apply List.Sublist.cons)) ?_
      refine DL.take (i := 9) [] rfl (by kernel_rfl) (by kernel_rfl) (by kernel_rfl) (by kernel_rfl) rfl rfl (fun u H => x_move ) (SH.sub H (by repeat first | exact List.Sublist.refl _ | exact List.nil_sublist _ | apply List.Sublist.cons_cons | apply List.Sublist.cons)) ?_
      refine DL.known (t := 79) (c := false) rfl (by simp) (fun hg22_9 => ?_)
      refine DL.take (i := 10) [] rfl (by kernel_rfl) (by kernel_rfl) (by kernel_rfl) (by kernel_rfl) rfl (wantE rfl rfl hg22_9) (fun u H => x_move ) (SH.sub H (by repeat first | exact List.Sublist.refl _ | exact List.nil_sublist _ | apply List.Sublist.cons_cons | apply List.Sublist.cons)) ?_
      refine DL.take (i := 11) [] rfl (by kernel_rfl) (by kernel_rfl) (by kernel_rfl) (by kernel_rfl) rfl (wantE rfl rfl hg22_9) (fun u H => x_lenV Try.underlying30 (by simp only [upd_get, ev, Nat.reduceEqDiff, ↓reduceIte] <;> rfl) (by first | assumption | exact SH.rsR H (by (repeat first | exact At.here | apply At.there); done) | exact SH.rsO H (by (repeat first | exact At.here | apply At.there); done) | exact (Rs.nil : Rs Non _ _ _))) (SH.sub H (by repeat first | exact List.Sublist.refl _ | exact List.nil_sublist _ | apply List.Sublist.cons_cons | apply List.Sublist.cons)) ?_
      refine DL.take (i := 12) [] rfl (by kernel_rfl) (by kernel_rfl) (by kernel_rfl) (by kernel_rfl) rfl (wantE rfl rfl hg22_9) (fun u H => x_move ) (SH.sub H (by repeat first | exact List.Sublist.refl _ | exact List.nil_sublist _ | apply List.Sublist.cons_cons | apply List.Sublist.cons)) ?_
      refine DL.take (i := 13) [] rfl (by kernel_rfl) (by kernel_rfl) (by kernel_rfl) (by kernel_rfl) rfl (wantE rfl rfl hg22_9) (fun u H => x_neq rfl rfl) (SH.sub H (by repeat first | exact List.Sublist.refl _ | exact List.nil_sublist _ | apply List.Sublist.cons_cons | apply List.Sublist.cons)) ?_
      refine DL.take (i := 14) [] rfl (by kernel_rfl) (by kernel_rfl) (by kernel_rfl) (by kernel_rfl) rfl rfl (fun u H => x_pickF rfl hg22_9) (SH.sub H (by repeat first | exact List.Sublist.refl _ | exact List.nil_sublist _ | apply List.Sublist.cons_cons | apply List.Sublist.cons)) ?_
      refine DL.take (i := 15) [] rfl (by kernel_rfl) (by kernel_rfl) (by kernel_rfl) (by kernel_rfl) rfl rfl (fun u H => x_move ) (SH.sub H (by repeat first | exact List.Sublist.refl _ | exact List.nil_sublist _ | apply List.Sublist.cons_cons | apply List.Sublist.cons)) ?_
      refine DL.known (t := 85) (c := false) rfl (by simp) (fun hg22_15 => ?_)
      refine DL.take (i := 16) [] rfl (by kernel_rfl) (by kernel_rfl) (by kernel_rfl) (by kernel_rfl) rfl (wantE rfl rfl hg22_15) (fun u H => x_move ) (SH.sub H (by repeat first | exact List.Sublist.refl _ | exact List.nil_sublist _ | apply List.Sublist.cons_cons | apply List.Sublist.cons)) ?_
      refine DL.take (i := 17) [] rfl (by kernel_rfl) (by kernel_rfl) (by kernel_rfl) (by kernel_rfl) rfl (wantE rfl rfl hg22_15) (fun u H => x_eql rfl rfl) (SH.sub H (by repeat first | exact List.Sublist.refl _ | exact List.nil_sublist _ | apply List.Sublist.cons_cons | apply List.Sublist.cons)) ?_
      refine DL.take (i := 18) [] rfl (by kernel_rfl) (by kernel_rfl) (by kernel_rfl) (by kernel_rfl) rfl (wantE rfl rfl hg22_15) (fun u H => x_move ) (SH.sub H (by repeat first | exact List.Sublist.refl _ | exact List.nil_sublist _ | apply List.Sublist.cons_cons | apply List.Sublist.cons)) ?_
      refine DL.splitB (t := 88) rfl (fun hg22_18 => ?_) (fun hg22_18 => ?_)
      · have hg22_18P := hg22_18
        try simp only [decide_eq_true_eq, decide_eq_false_iff_not, Bool.and_eq_true, Bool.or_eq_true, Bool.and_eq_false_iff, Bool.or_eq_false_iff, Bool.not_eq_true', Bool.not_eq_false', beq_iff_eq, bne_iff_ne, ne_eq, Decidable.not_not] at hg22_18P
        obtain ⟨l, hl⟩ := hlast (by simpa using hg22_18)
        have hx := last_req l r a.now
        rw [← hl] at hx
        have hml : ((addM es r a.now).1.map Ent.req).length = (addM es r a.now).1.length := List.length_map _
        have hn0 : 0 < (addM es r a.now).1.length := by rw [hl]; simp
        refine DL.take (i := 19) [] rfl (by kernel_rfl) (by kernel_rfl) (by kernel_rfl) (by kernel_rfl) rfl (wantE rfl rfl hg22_18) (fun u H => x_move ) (SH.sub H (by repeat first | exact List.Sublist.refl _ | exact List.nil_sublist _ | apply List.Sublist.cons_cons | apply List.Sublist.cons)) ?_
        refine DL.take (i := 20) [] rfl (by kernel_rfl) (by kernel_rfl) (by kernel_rfl) (by kernel_rfl) rfl (wantE rfl rfl hg22_18) (fun u H => x_move ) (SH.sub H (by repeat first | exact List.Sublist.refl _ | exact List.nil_sublist _ | apply List.Sublist.cons_cons | apply List.Sublist.cons)) ?_
        refine DL.take (i := 21) [] rfl (by kernel_rfl) (by kernel_rfl) (by kernel_rfl) (by kernel_rfl) rfl (wantE rfl rfl hg22_18) (fun u H => x_sub rfl rfl (wr_i64 (by omega) (by omega))) (SH.sub H (by repeat first | exact List.Sublist.refl _ | exact List.nil_sublist _ | apply List.Sublist.cons_cons | apply List.Sublist.cons)) ?_
        refine DL.take (i := 22) [] rfl (by kernel_rfl) (by kernel_rfl) (by kernel_rfl) (by kernel_rfl) rfl (wantE rfl rfl hg22_18) (fun u H => x_indexAddrV Try.underlying30 (by simp only [upd_get, ev, Nat.reduceEqDiff, ↓reduceIte] <;> rfl) rfl (by first | assumption | exact SH.rsR H (by (repeat first | exact At.here | apply At.there); done) | exact SH.rsO H (by (repeat first | exact At.here | apply At.there); done) | exact (Rs.nil : Rs Non _ _ _)) (by exact Try.sizeOf29) (by omega) (by omega)) (SH.sub H (by repeat first | exact List.Sublist.refl _ | exact List.nil_sublist _ | apply List.Sublist.cons_cons | apply List.Sublist.cons)) ?_
        refine DL.take (i := 23) [] rfl (by kernel_rfl) (by kernel_rfl) (by kernel_rfl) (by kernel_rfl) rfl (wantE rfl rfl hg22_18) (fun u H => x_loadA Try.isAgg29 Try.sizeOf29 rfl (by first | exact Rs.cells0 (by first | assumption | exact SH.rsR H (by (repeat first | exact At.here | apply At.there); done) | exact SH.rsO H (by (repeat first | exact At.here | apply At.there); done) | exact (Rs.nil : Rs Non _ _ _)) (by assumption)) (by rfl)) (SH.sub H (by repeat first | exact List.Sublist.refl _ | exact List.nil_sublist _ | apply List.Sublist.cons_cons | apply List.Sublist.cons)) ?_
        refine DL.take (i := 24) [] rfl (by kernel_rfl) (by kernel_rfl) (by kernel_rfl) (by kernel_rfl) rfl (wantE rfl rfl hg22_18) (fun u H => x_loadA Try.isAgg29 Try.sizeOf29 rfl (by first | exact SH.cells H (by (repeat first | exact At.here | apply At.there); done)) (by rfl)) (SH.sub H (by repeat first | exact List.Sublist.refl _ | exact List.nil_sublist _ | apply List.Sublist.cons_cons | apply List.Sublist.cons)) ?_
        refine DL.take (i := 25) [] rfl (by kernel_rfl) (by kernel_rfl) (by kernel_rfl) (by kernel_rfl) rfl (wantE rfl rfl hg22_18) (fun u H => x_neqG (by kernel_rfl) rfl rfl (EqA.struct Try.underlying29 (by kernel_rfl) (EqF.one rfl Try.isAgg3 rfl rfl (EqA.int Try.underlying3) (EqF.one rfl Try.isAgg3 rfl rfl (EqA.int Try.underlying3) (EqF.agg rfl Try.isAgg27 Try.sizeOf27 (EqA.struct Try.underlying27 (by kernel_rfl) (EqF.one rfl Try.isAgg3 rfl rfl (EqA.int Try.underlying3) (EqF.one rfl Try.isAgg3 rfl rfl (EqA.int Try.underlying3) (EqF.one rfl Try.isAgg9 rfl rfl (EqA.str Try.underlying9) EqF.nil)))) EqF.nil))))) (SH.sub H (by repeat first | exact List.Sublist.refl _ | exact List.nil_sublist _ | apply List.Sublist.cons_cons | apply List.Sublist.cons)) ?_
        refine DL.take (i := 26) [] rfl (by kernel_rfl) (by kernel_rfl) (by kernel_rfl) (by kernel_rfl) rfl (wantE rfl rfl hg22_15) (fun u H => x_pickT rfl hg22_18) (SH.sub H (by repeat first | exact List.Sublist.refl _ | exact List.nil_sublist _ | apply List.Sublist.cons_cons | apply List.Sublist.cons)) ?_
        refine DL.take (i := 27) [] rfl (by kernel_rfl) (by kernel_rfl) (by kernel_rfl) (by kernel_rfl) rfl rfl (fun u H => x_pickF rfl hg22_15) (SH.sub H (by repeat first | exact List.Sublist.refl _ | exact List.nil_sublist _ | apply List.Sublist.cons_cons | apply List.Sublist.cons)) ?_
        refine DL.done (by kernel_rfl) ?_
        refine thenE_norm ?_
        refine cut (K := K25) [0, 3, 4, 5, 6, 97] (fun σ => ?_)
        simp only [setL, keepE, upd_get, ev, Nat.reduceEqDiff, ↓reduceIte]
        refine h25 _ _ ?_; clear h25; try clear K25
        refine CW.condF rfl (by simp) ?_
        refine CW.skip ?_
        refine thenE_norm (h24 _ _ ?_); clear h24; try clear K24
        refine CW.seq (fun K26 h26 => ?_)
        refine CW.region ?_
        refine r_assign rfl ?_
        refine LW.nil ?_
        refine thenE_norm (h26 _ _ ?_); clear h26; try clear K26
        refine CW.block ?_
        refine CW.loopR [0, 3, 4, 5, 6] [11] (fun m vs w' => ∃ k : Nat, vs = [.int .i64 k] ∧ k ≤ 8 ∧ m = 8 - k ∧ SH Non Any w w' [.R (Old w) v acts, .P FN12_7 (PoolA p (addM es r a.now).1 FN12_7), .B b6_0 35 (i64L nw')]) (8) ?_ ?_
        · exact ⟨0, rfl, by omega, by omega, (SH.sel H [0, 1, 2] (by decide) (by rfl))⟩
        try clear H
        rintro n2 vs2 wL2 σ ⟨k, rfl, hk, rfl, H⟩
        simp only [setL, keepE, upd_get, ev, Nat.reduceEqDiff, ↓reduceIte]
        refine CW.seq (fun K27 h27 => ?_)
        refine CW.seq (fun K28 h28 => ?_)
        refine CW.region ?_
        refine r_move rfl ?_
        refine r_lss rfl rfl rfl ?_
        refine LW.nil ?_
        refine thenE_norm (h28 _ _ ?_); clear h28; try clear K28
        refine CW.cond rfl (fun hc8 => ?_) (fun hc8 => ?_)
        · try simp only [decide_eq_true_eq, decide_eq_false_iff_not, Bool.and_eq_true, Bool.or_eq_true, Bool.and_eq_false_iff, Bool.or_eq_false_iff, Bool.not_eq_true', Bool.not_eq_false', beq_iff_eq, bne_iff_ne, ne_eq, Decidable.not_not] at hc8
          refine CW.skip ?_
          refine thenE_norm (h27 _ _ ?_); clear h27; try clear K27
          refine CW.seq (fun K29 h29 => ?_)
          refine CW.block ?_
          refine CW.seq (fun K30 h30 => ?_)
          have hcell2 : (i64L nw')[0 + (k : Int).toNat * 1]? = some (.int .i64 (clM (addM es r a.now).1 k)) := by
            rw [show 0 + (k : Int).toNat * 1 = k by omega, i64L, List.getElem?_map, hI'.2.2.1 k (by omega)]; rfl
          have hhas := has_cl hI' k
          refine CW.drawH [] H (List.Sublist.refl _) (by kernel_rfl) rfl ?_
          clear H
          intro w27d H
          refine DL.take (i := 0) [] rfl (by kernel_rfl) (by kernel_rfl) (by kernel_rfl) (by kernel_rfl) rfl rfl (fun u H => x_move ) H ?_
          refine DL.take (i := 1) [] rfl (by kernel_rfl) (by kernel_rfl) (by kernel_rfl) (by kernel_rfl) rfl rfl (fun u H => x_move ) H ?_
          refine DL.take (i := 2) [] rfl (by kernel_rfl) (by kernel_rfl) (by kernel_rfl) (by kernel_rfl) rfl rfl (fun u H => x_move ) H ?_
          refine DL.take (i := 3) [] rfl (by kernel_rfl) (by kernel_rfl) (by kernel_rfl) (by kernel_rfl) rfl rfl (fun u H => x_indexAddrA Try.underlying35 rfl rfl (by exact Try.sizeOf3) (by omega) (by omega)) H ?_
          refine DL.take (i := 4) [] rfl (by kernel_rfl) (by kernel_rfl) (by kernel_rfl) (by kernel_rfl) rfl rfl (fun u H => x_load Try.isAgg3 rfl ((SH.blk H (i := 2) rfl).cell (o := 0 + (k : Int).toNat * 1) hcell2)) H ?_
          refine DL.take (i := 6) [] rfl (by kernel_rfl) (by kernel_rfl) (by kernel_rfl) (by kernel_rfl) rfl rfl (fun u H => x_move ) H ?_
          refine DL.take (i := 7) [] rfl (by kernel_rfl) (by kernel_rfl) (by kernel_rfl) (by kernel_rfl) rfl rfl (fun u H => x_indexAddrA Try.underlying35 rfl rfl (by exact Try.sizeOf3) (by omega) (by omega)) H ?_
          refine DL.take (i := 8) [] rfl (by kernel_rfl) (by kernel_rfl) (by kernel_rfl) (by kernel_rfl) rfl rfl (fun u H => x_load Try.isAgg3 rfl ((SH.blk H (i := 2) rfl).cell (o := 0 + (k : Int).toNat * 1) hcell2)) H ?_
          refine DL.take (i := 9) [] rfl (by kernel_rfl) (by kernel_rfl) (by kernel_rfl) (by kernel_rfl) rfl rfl (fun u H => x_gtr rfl rfl) H ?_
          refine DL.one (i := 5) (by kernel_rfl) rfl rfl ?_
          refine r_call rfl Try.call25 (by simp only [List.map_cons, List.map_nil, List.map_toArray, List.toList_toArray, upd_get, ev, Nat.reduceEqDiff, ↓reduceIte] <;> rfl) (Has_c _ _ _ (SH.prop H (by (repeat first | exact At.here | apply At.there); done))) ?_
          rintro _ w27_5 ⟨rfl, X⟩
          refine ⟨_, rfl, ?_⟩
          replace H := SH.same H X
          clear X
          refine LW.nil (thenE_norm ⟨fun _ => (SH.sub H (by repeat first | exact List.Sublist.refl _ | exact List.nil_sublist _ | apply List.Sublist.cons_cons | apply List.Sublist.cons)), ?_⟩)
          refine DL.take (i := 10) [] rfl (by kernel_rfl) (by kernel_rfl) (by kernel_rfl) (by kernel_rfl) rfl rfl (fun u H => x_neqB Try.underlying4 rfl rfl) (SH.sub H (by repeat first | exact List.Sublist.refl _ | exact List.nil_sublist _ | apply List.Sublist.cons_cons | apply List.Sublist.cons)) ?_
          refine DL.done (by kernel_rfl) ?_
          refine thenE_norm ?_
          refine cut (K := K30) [0, 3, 4, 5, 6, 11, 112] (fun σ => ?_)
          simp only [setL, keepE, upd_get, ev, Nat.reduceEqDiff, ↓reduceIte]
          refine h30 _ _ ?_; clear h30; try clear K30
          refine CW.condF rfl (by simp [hhas]) ?_
          refine CW.skip ?_
          refine blockE_norm ?_
          refine thenE_norm (h29 _ _ ?_); clear h29; try clear K29
          refine CW.region ?_
          refine r_move rfl ?_
          refine r_add rfl rfl rfl (wr_i64 (by omega) (by omega)) ?_
          refine r_assign rfl ?_
          refine LW.nil ?_
          refine thenE_norm ⟨rfl, ?_⟩
          exact ⟨_, by omega, k + 1, rfl, by omega, rfl, (SH.sel H [0, 1, 2] (by decide) (by rfl))⟩
        · try simp only [decide_eq_true_eq, decide_eq_false_iff_not, Bool.and_eq_true, Bool.or_eq_true, Bool.and_eq_false_iff, Bool.or_eq_false_iff, Bool.not_eq_true', Bool.not_eq_false', beq_iff_eq, bne_iff_ne, ne_eq, Decidable.not_not] at hc8
          refine CW.exit (thenE_exit (thenE_exit (blockE_hit ?_)))
          refine blockE_norm ?_
          refine thenE_norm (h14 _ _ ?_); clear h14; try clear K14
          refine CW.region ?_
          refine r_move rfl ?_
          refine r_add rfl rfl rfl (wr_i64 (by omega) (by omega)) ?_
          refine r_assign rfl ?_
          refine LW.nil ?_
          refine thenE_norm ⟨rfl, ?_⟩
          exact ⟨_, by omega, i + 1, _, nw', _, rfl, by omega, rfl, hI', (SH.sel H [0, 1, 2] (by decide) (by rfl))⟩
      · have hg22_18P := hg22_18
        try simp only [decide_eq_true_eq, decide_eq_false_iff_not, Bool.and_eq_true, Bool.or_eq_true, Bool.and_eq_false_iff, Bool.or_eq_false_iff, Bool.not_eq_true', Bool.not_eq_false', beq_iff_eq, bne_iff_ne, ne_eq, Decidable.not_not] at hg22_18P
        refine DL.skip (i := 19) [] rfl (by kernel_rfl) (by kernel_rfl) (by kernel_rfl) (by kernel_rfl) rfl (skipE rfl rfl hg22_18) (SH.sub H (by repeat first | exact List.Sublist.refl _ | exact List.nil_sublist _ | apply List.Sublist.cons_cons | apply List.Sublist.cons)) ?_
        refine DL.skip (i := 20) [] rfl (by kernel_rfl) (by kernel_rfl) (by kernel_rfl) (by kernel_rfl) rfl (skipE rfl rfl hg22_18) (SH.sub H (by repeat first | exact List.Sublist.refl _ | exact List.nil_sublist _ | apply List.Sublist.cons_cons | apply List.Sublist.cons)) ?_
        refine DL.skip (i := 21) [] rfl (by kernel_rfl) (by kernel_rfl) (by kernel_rfl) (by kernel_rfl) rfl (skipE rfl rfl hg22_18) (SH.sub H (by repeat first | exact List.Sublist.refl _ | exact List.nil_sublist _ | apply List.Sublist.cons_cons | apply List.Sublist.cons)) ?_
        refine DL.skip (i := 22) [] rfl (by kernel_rfl) (by kernel_rfl) (by kernel_rfl) (by kernel_rfl) rfl (skipE rfl rfl hg22_18) (SH.sub H (by repeat first | exact List.Sublist.refl _ | exact List.nil_sublist _ | apply List.Sublist.cons_cons | apply List.Sublist.cons)) ?_
        refine DL.skip (i := 23) [] rfl (by kernel_rfl) (by kernel_rfl) (by kernel_rfl) (by kernel_rfl) rfl (skipE rfl rfl hg22_18) (SH.sub H (by repeat first | exact List.Sublist.refl _ | exact List.nil_sublist _ | apply List.Sublist.cons_cons | apply List.Sublist.cons)) ?_
        refine DL.skip (i := 24) [] rfl (by kernel_rfl) (by kernel_rfl) (by kernel_rfl) (by kernel_rfl) rfl (skipE rfl rfl hg22_18) (SH.sub H (by repeat first | exact List.Sublist.refl _ | exact List.nil_sublist _ | apply List.Sublist.cons_cons | apply List.Sublist.cons)) ?_
        refine DL.skip (i := 25) [] rfl (by kernel_rfl) (by kernel_rfl) (by kernel_rfl) (by kernel_rfl) rfl (skipE rfl rfl hg22_18) (SH.sub H (by repeat first | exact List.Sublist.refl _ | exact List.nil_sublist _ | apply List.Sublist.cons_cons | apply List.Sublist.cons)) ?_
        refine DL.take (i := 26) [] rfl (by kernel_rfl) (by kernel_rfl) (by kernel_rfl) (by kernel_rfl) rfl (wantE rfl rfl hg22_15) (fun u H => x_pickF rfl hg22_18) (SH.sub H (by repeat first | exact List.Sublist.refl _ | exact List.nil_sublist _ | apply List.Sublist.cons_cons | apply List.Sublist.cons)) ?_
        refine DL.take (i := 27) [] rfl (by kernel_rfl) (by kernel_rfl) (by kernel_rfl) (by kernel_rfl) rfl rfl (fun u H => x_pickF rfl hg22_15) (SH.sub H (by repeat first | exact List.Sublist.refl _ | exact List.nil_sublist _ | apply List.Sublist.cons_cons | apply List.Sublist.cons)) ?_
        refine DL.done (by kernel_rfl) ?_
        refine thenE_norm ?_
        refine cut (K := K25) [0, 3, 4, 5, 6, 97] (fun σ => ?_)
        simp only [setL, keepE, upd_get, ev, Nat.reduceEqDiff, ↓reduceIte]
        refine h25 _ _ ?_; clear h25; try clear K25
        refine CW.condF rfl (by simp) ?_
        refine CW.skip ?_
        refine thenE_norm (h24 _ _ ?_); clear h24; try clear K24
        refine CW.seq (fun K31 h31 => ?_)
        refine CW.region ?_
        refine r_assign rfl ?_
        refine LW.nil ?_
        refine thenE_norm (h31 _ _ ?_); clear h31; try clear K31
        refine CW.block ?_
        refine CW.loopR [0, 3, 4, 5, 6] [11] (fun m vs w' => ∃ k : Nat, vs = [.int .i64 k] ∧ k ≤ 8 ∧ m = 8 - k ∧ SH Non Any w w' [.R (Old w) v acts, .P FN12_7 (PoolA p (addM es r a.now).1 FN12_7), .B b6_0 35 (i64L nw')]) (8) ?_ ?_
        · exact ⟨0, rfl, by omega, by omega, (SH.sel H [0, 1, 2] (by decide) (by rfl))⟩
        try clear H
        rintro n2 vs2 wL2 σ ⟨k, rfl, hk, rfl, H⟩
        simp only [setL, keepE, upd_get, ev, Nat.reduceEqDiff, ↓reduceIte]
        refine CW.seq (fun K32 h32 => ?_)
        refine CW.seq (fun K33 h33 => ?_)
        refine CW.region ?_
        refine r_move rfl ?_
        refine r_lss rfl rfl rfl ?_
        refine LW.nil ?_
        refine thenE_norm (h33 _ _ ?_); clear h33; try clear K33
        refine CW.cond rfl (fun hc8 => ?_) (fun hc8 => ?_)
        · try simp only [decide_eq_true_eq, decide_eq_false_iff_not, Bool.and_eq_true, Bool.or_eq_true, Bool.and_eq_false_iff, Bool.or_eq_false_iff, Bool.not_eq_true', Bool.not_eq_false', beq_iff_eq, bne_iff_ne, ne_eq, Decidable.not_not] at hc8
          refine CW.skip ?_
          refine thenE_norm (h32 _ _ ?_); clear h32; try clear K32
          refine CW.seq (fun K34 h34 => ?_)
          refine CW.block ?_
          refine CW.seq (fun K35 h35 => ?_)
          have hcell2 : (i64L nw')[0 + (k : Int).toNat * 1]? = some (.int .i64 (clM (addM es r a.now).1 k)) := by
            rw [show 0 + (k : Int).toNat * 1 = k by omega, i64L, List.getElem?_map, hI'.2.2.1 k (by omega)]; rfl
          have hhas := has_cl hI' k
          refine CW.drawH [] H (List.Sublist.refl _) (by kernel_rfl) rfl ?_
          clear H
          intro w27d H
          refine DL.take (i := 0) [] rfl (by kernel_rfl) (by kernel_rfl) (by kernel_rfl) (by kernel_rfl) rfl rfl (fun u H => x_move ) H ?_
          refine DL.take (i := 1) [] rfl (by kernel_rfl) (by kernel_rfl) (by kernel_rfl) (by kernel_rfl) rfl rfl (fun u H => x_move ) H ?_
          refine DL.take (i := 2) [] rfl (by kernel_rfl) (by kernel_rfl) (by kernel_rfl) (by kernel_rfl) rfl rfl (fun u H => x_move ) H ?_
          refine DL.take (i := 3) [] rfl (by kernel_rfl) (by kernel_rfl) (by kernel_rfl) (by kernel_rfl) rfl rfl (fun u H => x_indexAddrA Try.underlying35 rfl rfl (by exact Try.sizeOf3) (by omega) (by omega)) H ?_
          refine DL.take (i := 4) [] rfl (by kernel_rfl) (by kernel_rfl) (by kernel_rfl) (by kernel_rfl) rfl rfl (fun u H => x_load Try.isAgg3 rfl ((SH.blk H (i := 2) rfl).cell (o := 0 + (k : Int).toNat * 1) hcell2)) H ?_
          refine DL.take (i := 6) [] rfl (by kernel_rfl) (by kernel_rfl) (by kernel_rfl) (by kernel_rfl) rfl rfl (fun u H => x_move ) H ?_
          refine DL.take (i := 7) [] rfl (by kernel_rfl) (by kernel_rfl) (by kernel_rfl) (by kernel_rfl) rfl rfl (fun u H => x_indexAddrA Try.underlying35 rfl rfl (by exact Try.sizeOf3) (by omega) (by omega)) H ?_
          refine DL.take (i := 8) [] rfl (by kernel_rfl) (by kernel_rfl) (by kernel_rfl) (by kernel_rfl) rfl rfl (fun u H => x_load Try.isAgg3 rfl ((SH.blk H (i := 2) rfl).cell (o := 0 + (k : Int).toNat * 1) hcell2)) H ?_
          refine DL.take (i := 9) [] rfl (by kernel_rfl) (by kernel_rfl) (by kernel_rfl) (by kernel_rfl) rfl rfl (fun u H => x_gtr rfl rfl) H ?_
          refine DL.one (i := 5) (by kernel_rfl) rfl rfl ?_
          refine r_call rfl Try.call25 (by simp only [List.map_cons, List.map_nil, List.map_toArray, List.toList_toArray, upd_get, ev, Nat.reduceEqDiff, ↓reduceIte] <;> rfl) (Has_c _ _ _ (SH.prop H (by (repeat first | exact At.here | apply At.there); done))) ?_
          rintro _ w27_5 ⟨rfl, X⟩
          refine ⟨_, rfl, ?_⟩
          replace H := SH.same H X
          clear X
          refine LW.nil (thenE_norm ⟨fun _ => (SH.sub H (by repeat first | exact List.Sublist.refl _ | exact List.nil_sublist _ | apply List.Sublist.cons_cons | apply List.Sublist.cons)), ?_⟩)
          refine DL.take (i := 10) [] rfl (by kernel_rfl) (by kernel_rfl) (by kernel_rfl) (by kernel_rfl) rfl rfl (fun u H => x_neqB Try.underlying4 rfl rfl) (SH.sub H (by repeat first | exact List.Sublist.refl _ | exact List.nil_sublist _ | apply List.Sublist.cons_cons | apply List.Sublist.cons)) ?_
          refine DL.done (by kernel_rfl) ?_
          refine thenE_norm ?_
          refine cut (K := K35) [0, 3, 4, 5, 6, 11, 112] (fun σ => ?_)
          simp only [setL, keepE, upd_get, ev, Nat.reduceEqDiff, ↓reduceIte]
          refine h35 _ _ ?_; clear h35; try clear K35
          refine CW.condF rfl (by simp [hhas]) ?_
          refine CW.skip ?_
          refine blockE_norm ?_
          refine thenE_norm (h34 _ _ ?_); clear h34; try clear K34
          refine CW.region ?_
          refine r_move rfl ?_
          refine r_add rfl rfl rfl (wr_i64 (by omega) (by omega)) ?_
          refine r_assign rfl ?_
          refine LW.nil ?_
          refine thenE_norm ⟨rfl, ?_⟩
          exact ⟨_, by omega, k + 1, rfl, by omega, rfl, (SH.sel H [0, 1, 2] (by decide) (by rfl))⟩
        · try simp only [decide_eq_true_eq, decide_eq_false_iff_not, Bool.and_eq_true, Bool.or_eq_true, Bool.and_eq_false_iff, Bool.or_eq_false_iff, Bool.not_eq_true', Bool.not_eq_false', beq_iff_eq, bne_iff_ne, ne_eq, Decidable.not_not] at hc8
          refine CW.exit (thenE_exit (thenE_exit (blockE_hit ?_)))
          refine blockE_norm ?_
          refine thenE_norm (h14 _ _ ?_); clear h14; try clear K14
          refine CW.region ?_
          refine r_move rfl ?_
          refine r_add rfl rfl rfl (wr_i64 (by omega) (by omega)) ?_
          refine r_assign rfl ?_
          refine LW.nil ?_
          refine thenE_norm ⟨rfl, ?_⟩
          exact ⟨_, by omega, i + 1, _, nw', _, rfl, by omega, rfl, hI', (SH.sel H [0, 1, 2] (by decide) (by rfl))⟩
    · try simp only [decide_eq_true_eq, decide_eq_false_iff_not, Bool.and_eq_true, Bool.or_eq_true, Bool.and_eq_false_iff, Bool.or_eq_false_iff, Bool.not_eq_true', Bool.not_eq_false', beq_iff_eq, bne_iff_ne, ne_eq, Decidable.not_not] at hc3
      refine CW.exit (thenE_exit (thenE_exit (blockE_hit ?_)))
      refine thenE_norm (h10 _ _ ?_); clear h10; try clear K10
      refine CW.seq (fun K36 h36 => ?_)
      refine CW.region ?_
      refine r_call rfl Try.call21 (by simp only [List.map_cons, List.map_nil, List.map_toArray, List.toList_toArray, upd_get, ev, Nat.reduceEqDiff, ↓reduceIte] <;> rfl) (awake19_c _) ?_
      rintro _ w29_0 ⟨rfl, X⟩
      refine ⟨_, rfl, ?_⟩
      replace H := SH.same H X
      clear X
      refine r_assign rfl ?_
      refine LW.nil ?_
      refine thenE_norm (h36 _ _ ?_); clear h36; try clear K36
      refine CW.ret (ret1 Try.results4 (by simp only [upd_get, ev, Nat.reduceEqDiff, ↓reduceIte]; rfl) ?_)
      exact ⟨rfl, H.ext⟩
end Go.Proofs.Ytlfbofnfhhddbaa
