/-
  The walks of layer 19's laws, the last part: whatever is done, the document's queue answers the same.
-/
import Derived.Test.YtlfbofnfhhddbaaVPlM
namespace Go.Proofs.Ytlfbofnfhhddbaa
set_option linter.unusedSimpArgs false
set_option linter.unusedVariables false
set_option maxRecDepth 20000
open Go.V Go.RowKit Go.ChangeShapes Go.WideShapes

/-- An entry of the program's queue as the document's has it. -/
def toW (e : Ent) : Wt := ⟨e.req, e.came, e.slot, e.view, e.told⟩
def okE (e : Ent) : Prop := (e.marked = true ∧ 1 ≤ e.slot) ∨ (e.marked = false ∧ e.slot = 0)
def okQ (es : List Ent) : Prop := (∀ e ∈ es, okE e) ∧ es.Pairwise difC
theorem okQ_nil : okQ [] := ⟨by simp, by simp⟩
theorem toW_reqs (es : List Ent) : (es.map toW).map Wt.req = es.map Ent.req := by rw [List.map_map]; rfl
theorem okQ_map {es : List Ent} {f : Ent → Ent} (h : okQ es) (hr : ∀ e, (f e).req = e.req) (hf : ∀ e, okE e → okE (f e)) : okQ (es.map f) := by
  refine ⟨fun e he => ?_, ?_⟩
  · obtain ⟨a, ha, rfl⟩ := List.mem_map.1 he
    exact hf a (h.1 a ha)
  · rw [List.pairwise_map]
    refine h.2.imp fun {a b} hab => ?_
    unfold difC at hab ⊢
    rw [hr, hr]; exact hab
theorem okQ_filter {es : List Ent} (p : Ent → Bool) (h : okQ es) : okQ (es.filter p) := ⟨fun e he => h.1 e (List.mem_filter.1 he).1, h.2.sublist List.filter_sublist⟩
theorem has_toW (es : List Ent) (c s : Int) : (es.map toW).any (isW c s) = hasM es c s := by
  rw [List.any_map]; rfl
/-- What is put in. -/
theorem eraseP_filter {c : Int} : ∀ es : List Ent, es.Pairwise difC → es.eraseP (isC c) = es.filter (fun e => !isC c e)
  | [], _ => rfl
  | a :: t, hp => by
    obtain ⟨h1, h2⟩ := List.pairwise_cons.1 hp
    rw [List.eraseP_cons, List.filter_cons]
    by_cases ha : isC c a = true
    · rw [ha, cond_true]
      have : t.filter (fun e => !isC c e) = t := List.filter_eq_self.2 fun x hx => by
        cases hq : isC c x
        · rfl
        · rw [isC_iff] at ha hq
          exact absurd (ha.trans hq.symm) (h1 x hx)
      simp [this]
    · have ha' : isC c a = false := by simpa using ha
      rw [ha', cond_false, eraseP_filter t h2]
      simp
theorem filter_toW (es : List Ent) (r : Rq) : (es.map toW).filter (notW r) = (es.filter (fun e => !isC r.client e)).map toW := by
  rw [List.filter_map]
  congr 1
  refine List.filter_congr fun e _ => ?_
  exact decide_not
theorem add_toW {es : List Ent} (r : Rq) (now : Int) (h : okQ es) (hl : es.length ≤ 6) : addW (es.map toW) r now = ((addM es r now).1.map toW, (addM es r now).2) ∧ okQ (addM es r now).1 := by
  unfold addW addM
  by_cases hm : mayRq r = true
  · rw [if_pos hm, if_pos hm]
    cases hf : es.find? (isC r.client) with
    | none =>
      have hno := List.find?_eq_none.1 hf
      have hany : (es.map toW).any (twW r) = false := by
        rw [List.any_map, List.any_eq_false]
        intro e he
        have := hno e he
        rw [isC_iff] at this
        simp [twW, toW, this]
      have hfl : es.filter (fun e => !isC r.client e) = es := List.filter_eq_self.2 fun e he => by
        have := hno e he
        simpa using this
      rw [if_neg (by rw [hany]; decide), filter_toW, hfl, List.length_map]
      simp only
      by_cases h6 : 6 ≤ es.length
      · rw [if_pos h6, if_pos h6]; exact ⟨rfl, h⟩
      · rw [if_neg h6, if_neg h6]
        refine ⟨by simp [toW, newE], fun e he => ?_, pair_snoc h.2 hf⟩
        rcases List.mem_append.1 he with he | he
        · exact h.1 e he
        · rw [List.mem_singleton] at he; subst he; exact .inr ⟨rfl, rfl⟩
    | some e =>
      have hmem := List.mem_of_find?_eq_some hf
      have hec := List.find?_some hf
      simp only
      by_cases hs : r.seq ≤ e.req.seq
      · have hany : (es.map toW).any (twW r) = true := by
          rw [List.any_map, List.any_eq_true]
          refine ⟨e, hmem, ?_⟩
          rw [isC_iff] at hec
          simp [twW, toW, hec, hs]
        rw [if_pos hany, if_pos hs]; exact ⟨rfl, h⟩
      · have hany : (es.map toW).any (twW r) = false := by
          rw [List.any_map, List.any_eq_false]
          intro x hx
          by_cases hxe : x.req.client = r.client
          · have : x = e := by
              obtain ⟨i, hi⟩ := List.mem_iff_getElem?.1 hx
              obtain ⟨j, hj⟩ := List.mem_iff_getElem?.1 hmem
              have hil := lt_of_get hi
              have hjl := lt_of_get hj
              have hp := List.pairwise_iff_getElem.1 h.2
              rw [isC_iff] at hec
              rcases Nat.lt_trichotomy i j with q | q | q
              · have := hp i j hil hjl q
                rw [List.getElem?_eq_getElem hil] at hi
                rw [List.getElem?_eq_getElem hjl] at hj
                rw [Option.some.inj hi, Option.some.inj hj] at this
                exact absurd (hxe.trans hec.symm) this
              · subst q; rw [hi] at hj; exact Option.some.inj hj
              · have := hp j i hjl hil q
                rw [List.getElem?_eq_getElem hil] at hi
                rw [List.getElem?_eq_getElem hjl] at hj
                rw [Option.some.inj hi, Option.some.inj hj] at this
                exact absurd (hec.trans hxe.symm) this
            subst this
            simp [twW, toW, hs]
          · simp [twW, toW, hxe]
        have hel := eraseP_filter (c := r.client) es h.2
        have hlen : (es.eraseP (isC r.client)).length = es.length - 1 := List.length_eraseP_of_mem hmem hec
        have hpos : 0 < es.length := List.length_pos_of_mem hmem
        rw [if_neg (by rw [hany]; decide), filter_toW, ← hel, List.length_map, if_neg (by omega), if_neg hs]
        refine ⟨by simp [toW, newE], fun x hx => ?_, pair_snoc (h.2.sublist List.eraseP_sublist) (find_gone es h.2)⟩
        rcases List.mem_append.1 hx with hx | hx
        · exact h.1 x (List.mem_of_mem_eraseP hx)
        · rw [List.mem_singleton] at hx; subst hx; exact .inr ⟨rfl, rfl⟩
  · rw [if_neg hm, if_neg hm]; exact ⟨rfl, h⟩
/-- What is ready. -/
theorem rest_toW {es : List Ent} (h : okQ es) : restW (es.map toW) = (waitL es).map toW := by
  rw [restW, waitL, List.filter_map]
  congr 1
  refine List.filter_congr fun e he => ?_
  rcases h.1 e he with ⟨h1, h2⟩ | ⟨h1, h2⟩
  · show decide (e.slot = 0) = !e.marked
    rw [h1, decide_eq_false (by omega)]; rfl
  · show decide (e.slot = 0) = !e.marked
    rw [h1, h2]; rfl
theorem ready_toW {es : List Ent} (now wait : Int) (h : okQ es) : readyW (es.map toW) now wait = readyM es now wait := by
  have h1 : readyLW (restW (es.map toW)) = readyL (waitL es) := by
    rw [rest_toW h, readyLW, readyL, ← List.map_take, ← List.map_take, List.map_map]; rfl
  have h2 : firstW (restW (es.map toW)) = firstM (waitL es) := by
    rw [rest_toW h]
    cases waitL es <;> rfl
  have h3 := ready_len (waitL es)
  rw [readyW, readyM, h1, h2]
  by_cases hz : (readyL (waitL es)).length = 0
  · have h4 := List.length_eq_zero_iff.1 hz
    simp [h4]
  · by_cases hq : (readyL (waitL es)).length = 3 ∨ wait ≤ cutM now - firstM (waitL es)
    · rw [if_neg (by omega), if_pos (by omega)]
    · rw [if_pos (by omega), if_neg (by omega)]
/-- What is marked. -/
theorem markOne_map {es : List Ent} {slot : Int} (r : Rq) (hp : es.Pairwise difC) : markOne slot es r = es.map fun e => if isR r.client r.seq e = true then markE slot e else e := by
  unfold markOne
  rcases find_cases (isR r.client r.seq) es with ⟨hf, hn⟩ | ⟨i, x, hf, hx, hpx, -, -⟩
  · rw [if_neg (by omega)]
    have hno := List.find?_eq_none.1 hn
    conv => lhs; rw [← List.map_id es]
    refine List.map_congr_left fun e he => ?_
    rw [if_neg (hno e he)]; rfl
  · rw [hf, if_pos (by omega), Int.toNat_natCast]
    have hil := lt_of_get hx
    apply List.ext_getElem?
    intro j
    rw [List.getElem?_modify, List.getElem?_map]
    by_cases hj : i = j
    · subst hj
      rw [hx]; simp [hpx]
    · cases hy : es[j]? with
      | none => simp
      | some y =>
        have hjl := lt_of_get hy
        have hne : ¬ isR r.client r.seq y = true := by
          intro hq
          simp only [isR, Bool.and_eq_true, decide_eq_true_eq] at hq hpx
          have hpw := List.pairwise_iff_getElem.1 hp
          have ei : es[i] = x := by rw [List.getElem?_eq_getElem hil] at hx; exact Option.some.inj hx
          have ej : es[j] = y := by rw [List.getElem?_eq_getElem hjl] at hy; exact Option.some.inj hy
          rcases Nat.lt_or_gt_of_ne hj with q | q
          · have := hpw i j hil hjl q
            rw [ei, ej] at this
            exact this (hpx.1.trans hq.1.symm)
          · have := hpw j i hjl hil q
            rw [ei, ej] at this
            exact this (hq.1.trans hpx.1.symm)
        simp [hj, hne]
theorem markE_ok {slot : Int} (hs : ¬ slot < 1) (e : Ent) : okE (markE slot e) := .inl ⟨rfl, by show 1 ≤ slot; omega⟩
theorem mark_toW {slot : Int} (hs : ¬ slot < 1) : ∀ (rs : List Rq) (es : List Ent), okQ es → (rs.foldl (markOne slot) es).map toW = (es.map toW).map (mkW rs slot) ∧ okQ (rs.foldl (markOne slot) es)
  | [], es, h => ⟨by
      conv => lhs; rw [List.foldl_nil, ← List.map_id (es.map toW)]
      exact List.map_congr_left fun x _ => rfl, h⟩
  | r :: rs, es, h => by
    have h1 := markOne_map (slot := slot) r h.2
    have hk : okQ (markOne slot es r) := by
      rw [h1]
      refine okQ_map h (fun e => by split <;> rfl) (fun e he => ?_)
      split
      · exact markE_ok hs e
      · exact he
    obtain ⟨i1, i2⟩ := mark_toW hs rs (markOne slot es r) hk
    rw [List.foldl_cons]
    refine ⟨?_, i2⟩
    rw [i1, h1, List.map_map, List.map_map, List.map_map]
    refine List.map_congr_left fun e _ => ?_
    simp only [Function.comp]
    by_cases hq : isR r.client r.seq e = true
    · rw [if_pos hq]
      have hs1 : sameQ (toW e) r = true := hq
      have ha : (r :: rs).any (sameQ (toW e)) = true := by rw [List.any_cons, hs1]; rfl
      rw [show mkW (r :: rs) slot (toW e) = { toW e with slot := slot } from by rw [mkW, if_pos ha]]
      unfold mkW
      split <;> rfl
    · rw [if_neg hq]
      have hs1 : sameQ (toW e) r = false := by
        have : isR r.client r.seq e = false := by simpa using hq
        exact this
      unfold mkW
      rw [List.any_cons, hs1, Bool.false_or]
theorem markM_toW {es : List Ent} (slot : Int) (rs : List Rq) (h : okQ es) : markW (es.map toW) slot rs = (markM es slot rs).map toW ∧ okQ (markM es slot rs) := by
  unfold markW markM
  by_cases hs : slot < 1
  · rw [if_pos hs, if_pos hs]; exact ⟨rfl, h⟩
  · rw [if_neg hs, if_neg hs]
    obtain ⟨h1, h2⟩ := mark_toW hs rs es h
    exact ⟨h1.symm, h2⟩
theorem clear_toW {es : List Ent} (h : okQ es) : (es.map toW).map clrW = (es.map clearE).map toW ∧ okQ (es.map clearE) :=
  ⟨by rw [List.map_map, List.map_map]; rfl, okQ_map h (fun _ => rfl) (fun _ _ => .inr ⟨rfl, rfl⟩)⟩
theorem told_toW {es : List Ent} (view : Int) (h : okQ es) : (es.map toW).map (toldW view) = (es.map (toldE view)).map toW ∧ okQ (es.map (toldE view)) ∧ newW (es.map toW) view = newL es view := by
  refine ⟨?_, okQ_map h (fun e => by unfold toldE; split <;> rfl) (fun e he => by unfold toldE; split <;> exact he), ?_⟩
  · rw [List.map_map, List.map_map]
    refine List.map_congr_left fun e _ => ?_
    show toldW view (toW e) = toW (toldE view e)
    unfold toldW toldE
    have : isNewW view (toW e) = isNew view e := rfl
    rw [this]
    split <;> rfl
  · rw [newW, newL, List.filter_map, List.map_map]; rfl
theorem trim_toW {es : List Ent} (ms : List Mem) (done : Int) (h : okQ es) : trimW (es.map toW) ms done = (trimM es ms done).map toW ∧ okQ (trimM es ms done) := by
  have h2 := okQ_filter (fun e => !oldE ms e) h
  constructor
  · rw [trimW, trimM, List.filter_map, List.map_map, List.map_map]
    refine List.map_congr_left fun e he => ?_
    show backW done (toW e) = toW (backE done e)
    unfold backW backE
    rcases h2.1 e he with ⟨q1, q2⟩ | ⟨q1, q2⟩
    · by_cases hd : e.slot ≤ done
      · rw [if_pos (show (toW e).slot ≤ done from hd), if_pos ⟨q1, hd⟩]; rfl
      · rw [if_neg (show ¬ (toW e).slot ≤ done from hd), if_neg (fun h => hd h.2)]
    · rw [if_neg (show ¬ (e.marked = true ∧ e.slot ≤ done) from by rw [q1]; simp)]
      by_cases hd : e.slot ≤ done
      · rw [if_pos (show (toW e).slot ≤ done from hd)]
        show (⟨e.req, e.came, 0, e.view, e.told⟩ : Wt) = ⟨e.req, e.came, e.slot, e.view, e.told⟩
        rw [q2]
      · rw [if_neg (show ¬ (toW e).slot ≤ done from hd)]
  · refine okQ_map h2 (fun e => by unfold backE; split <;> rfl) (fun e he => ?_)
    unfold backE
    split
    · exact .inr ⟨rfl, rfl⟩
    · exact he
set_option maxHeartbeats 16000000 in
theorem PoolRuns_c {F : Nat → Prop} {v : Value} {acts : List ActP} (raw : Rq) (wait : Int) (w : World) (hv : Rs F w v acts) (hrs : raw.cmd.name.size ≤ 9223372036854775807) :
    Calls Try.prog 11 #[v, agg raw, .int .i64 wait] w fun e w' => e = .returned (.bool true) ∧ Ext0 w w' := by
  obtain ⟨rc, rq, rk, rs, rn⟩ := raw
  dsimp only at hrs
  have H := (SH.start w).arg hv
  have h63 := hv.len63
  refine calls_of_CW Try.func11 rfl Try.ntmps11 (Nat.le_of_ble_eq_true rfl) ?_
  simp only [argE, argFrom, Nat.reduceAdd]
  refine CW.seq (fun K1 h1 => ?_)
  refine CW.region ?_
  refine s_box H rfl (by simp only [upd_get, ev, Nat.reduceEqDiff, ↓reduceIte] <;> rfl) rfl ?_
  clear H
  intro b0_0 w0_0 H
  try dsimp only [replC, List.cons_append, List.nil_append, List.append_nil, agg, cellsL, Value.cells, List.toList_toArray, List.set_cons_zero, List.set_cons_succ, spliceL, List.take_succ_cons, List.take_zero, List.drop_succ_cons, List.drop_zero, List.length_cons, List.length_nil, Nat.reduceAdd, Row.cells, Gr.L, Rep.L, Mem.L, Cm.L, Rq.L, Ent.L, ActP.L, Wt.L] at H
  refine r_assign rfl ?_
  refine LW.nil ?_
  refine thenE_norm (h1 _ _ ?_); clear h1; try clear K1
  refine CW.seq (fun K2 h2 => ?_)
  refine CW.seq (fun K3 h3 => ?_)
  refine CW.region ?_
  refine r_move rfl ?_
  first
    | refine r_lenV rfl Try.underlying34 (by simp only [upd_get, ev, Nat.reduceEqDiff, ↓reduceIte] <;> rfl) (by first | assumption | exact SH.rsR H (by (repeat first | exact At.here | apply At.there); done) | exact SH.rsO H (by (repeat first | exact At.here | apply At.there); done) | exact (Rs.nil : Rs Non _ _ _)) ?_
    | refine r_len rfl Try.underlying34 rfl ?_
  refine r_gtr rfl rfl rfl ?_
  refine r_move rfl ?_
  refine' LW.grpOr (n := 6) (ts := [0, 2, 4]) (d := 23) (tj := 17) rfl (fun hg1_4 => ?_) (fun hg1_4 => ?_) (fun σ => ?_)
  rotate_left
  · simp only [List.take_succ_cons, List.take_zero]
    have hg1_4P := hg1_4
    try simp only [decide_eq_true_eq, decide_eq_false_iff_not, Bool.and_eq_true, Bool.or_eq_true, Bool.and_eq_false_iff, Bool.or_eq_false_iff, Bool.not_eq_true', Bool.not_eq_false', beq_iff_eq, bne_iff_ne] at hg1_4P
    refine LW.want rfl rfl hg1_4 ?_
    refine r_fieldAddrO rfl Try.underlying29 rfl Try.sizeOf27 (by decide) (show _ = 2 from rfl) rfl ?_
    refine LW.want rfl rfl hg1_4 ?_
    refine r_fieldAddrO rfl Try.underlying27 rfl Try.sizeOf9 (by decide) (show _ = 4 from rfl) rfl ?_
    refine LW.want rfl rfl hg1_4 ?_
    refine r_load rfl Try.isAgg9 rfl (by first | exact SH.cellB H (by (repeat first | exact At.here | apply At.there); done) (by rfl) | assumption) ?_
    refine LW.want rfl rfl hg1_4 ?_
    refine r_lenS rfl Try.underlying9 rfl ?_
    refine LW.want rfl rfl hg1_4 ?_
    refine r_gtr rfl rfl rfl ?_
    refine r_pickF rfl rfl hg1_4 ?_
    refine LW.nil (thenE_norm ⟨rfl, rfl, rfl⟩)
  · simp only [List.take_succ_cons, List.take_zero]
    refine LW.skip rfl (fun _ e => by cases e; decide) rfl hg1_4 ?_
    refine LW.skip rfl (fun _ e => by cases e; decide) rfl hg1_4 ?_
    refine LW.skip rfl (fun _ e => by cases e; decide) rfl hg1_4 ?_
    refine LW.skip rfl (fun _ e => by cases e; decide) rfl hg1_4 ?_
    refine LW.skip rfl (fun _ e => by cases e; decide) rfl hg1_4 ?_
    refine r_pickT rfl rfl hg1_4 ?_
    refine LW.nil (thenE_norm ⟨rfl, rfl, rfl⟩)
  simp only [setL, keepE, upd_get, ev, Nat.reduceEqDiff, ↓reduceIte]; simp only [List.drop_succ_cons, List.drop_zero]
  refine LW.nil ?_
  refine thenE_norm (h3 _ _ ?_); clear h3; try clear K3
  refine CW.cond rfl (fun hc1 => ?_) (fun hc1 => ?_)
  · try simp only [decide_eq_true_eq, decide_eq_false_iff_not, Bool.and_eq_true, Bool.or_eq_true, Bool.and_eq_false_iff, Bool.or_eq_false_iff, Bool.not_eq_true', Bool.not_eq_false', beq_iff_eq, bne_iff_ne, ne_eq, Decidable.not_not] at hc1
    refine CW.seq (fun K4 h4 => ?_)
    refine CW.region ?_
    refine r_call rfl Try.call21 (by simp only [List.map_cons, List.map_nil, List.map_toArray, List.toList_toArray, upd_get, ev, Nat.reduceEqDiff, ↓reduceIte] <;> rfl) (awake19_c _) ?_
    rintro _ w2_0 ⟨rfl, X⟩
    refine ⟨_, rfl, ?_⟩
    replace H := SH.same H X
    clear X
    refine r_assign rfl ?_
    refine LW.nil ?_
    refine thenE_norm (h4 _ _ ?_); clear h4; try clear K4
    refine CW.ret (thenE_ret (ret1 Try.results11 (by simp only [upd_get, ev, Nat.reduceEqDiff, ↓reduceIte]; rfl) ?_))
    exact ⟨rfl, H.ext⟩
  · try simp only [decide_eq_true_eq, decide_eq_false_iff_not, Bool.and_eq_true, Bool.or_eq_true, Bool.and_eq_false_iff, Bool.or_eq_false_iff, Bool.not_eq_true', Bool.not_eq_false', beq_iff_eq, bne_iff_ne, ne_eq, Decidable.not_not] at hc1
    refine CW.skip ?_
    refine thenE_norm (h2 _ _ ?_); clear h2; try clear K2
    refine CW.seq (fun K5 h5 => ?_)
    refine CW.region ?_
    refine r_call rfl Try.call18 (by simp only [List.map_cons, List.map_nil, List.map_toArray, List.toList_toArray, upd_get, ev, Nat.reduceEqDiff, ↓reduceIte] <;> rfl) (PoolNew_c _) ?_
    rintro _ w3_0 ⟨p, FN, rfl, K⟩
    refine ⟨_, rfl, ?_⟩
    replace H := SH.call H K
    clear K
    try dsimp only [replC, List.cons_append, List.nil_append, List.append_nil] at H
    refine r_buildQ rfl Try.underlying77 Try.zeroValue77 rfl (pl := [(0, 1)]) (by intro w; simp [go_sem]) (qs := []) (cs := [.slice none 0 0]) trivial rfl ?_
    refine s_box H rfl (by simp only [upd_get, ev, Nat.reduceEqDiff, ↓reduceIte] <;> rfl) rfl ?_
    clear H
    intro b3_2 w3_2 H
    try dsimp only [replC, List.cons_append, List.nil_append, List.append_nil, agg, cellsL, Value.cells, List.toList_toArray, List.set_cons_zero, List.set_cons_succ, spliceL, List.take_succ_cons, List.take_zero, List.drop_succ_cons, List.drop_zero, List.length_cons, List.length_nil, Nat.reduceAdd, Row.cells, Gr.L, Rep.L, Mem.L, Cm.L, Rq.L, Ent.L, ActP.L, Wt.L] at H
    refine r_assign rfl ?_
    refine r_assign rfl ?_
    refine LW.nil ?_
    refine thenE_norm (h5 _ _ ?_); clear h5; try clear K5
    refine CW.seq (fun K6 h6 => ?_)
    refine CW.seq (fun K7 h7 => ?_)
    refine CW.region ?_
    refine r_move rfl ?_
    refine r_eqlP rfl Try.underlying22 rfl rfl ?_
    refine LW.nil ?_
    refine thenE_norm (h7 _ _ ?_); clear h7; try clear K7
    refine CW.condF rfl (by first | rfl | (simp only [decide_eq_true_eq, decide_eq_false_iff_not, Bool.and_eq_true, Bool.or_eq_true, Bool.and_eq_false_iff, Bool.or_eq_false_iff, Bool.not_eq_true', Bool.not_eq_false', beq_iff_eq, bne_iff_ne]; omega) | simp_all) ?_
    refine CW.skip ?_
    refine thenE_norm (h6 _ _ ?_); clear h6; try clear K6
    refine CW.seq (fun K8 h8 => ?_)
    refine CW.seq (fun K9 h9 => ?_)
    have H2 := SH.sel (H.addO (α := Wt) 128) [3, 4, 0, 1, 2] (by decide) rfl
    obtain ⟨FM0, H3⟩ := RPoolA.mkL (ws := ([] : List Ent).map toW) (by simp) H2
    replace H := SH.sel H3 [1, 2, 3, 0] (by decide) rfl
    clear H2 H3
    refine CW.region ?_
    refine r_assign rfl ?_
    refine LW.nil ?_
    refine thenE_norm ?_
    refine cut (K := K9) [0, 2, 4, 7, 8, 9] (fun σ => ?_)
    simp only [setL, keepE, upd_get, ev, Nat.reduceEqDiff, ↓reduceIte]
    refine h9 _ _ ?_; clear h9; try clear K9
    refine CW.block ?_
    refine CW.loopR [0, 2, 4, 7, 8] [9] (fun m vs w' => ∃ (i : Nat) (es : List Ent) (FN FM : Nat → Prop), vs = [.int .i64 i] ∧ i ≤ acts.length ∧ m = acts.length - i ∧ okQ es ∧ SH Non Any w w' [.R (Old w) v acts, .B b0_0 29 [.int .i64 rc, .int .i64 rq, .int .i64 rk, .int .i64 rs, .string rn], .P FN (PoolA p es FN), .P FM (RPoolA b3_2 (es.map toW) FM)]) (acts.length) ?_ ?_
    · exact ⟨0, [], _, _, rfl, by omega, by omega, okQ_nil, H⟩
    try clear H
    rintro n1 vs1 wL1 σ ⟨i, es, FN, FM, rfl, hi, rfl, hok, H⟩
    simp only [setL, keepE, upd_get, ev, Nat.reduceEqDiff, ↓reduceIte]
    refine CW.seq (fun K10 h10 => ?_)
    refine CW.seq (fun K11 h11 => ?_)
    refine CW.region ?_
    refine r_move rfl ?_
    refine r_move rfl ?_
    first
      | refine r_lenV rfl Try.underlying34 (by simp only [upd_get, ev, Nat.reduceEqDiff, ↓reduceIte] <;> rfl) (by first | assumption | exact SH.rsR H (by (repeat first | exact At.here | apply At.there); done) | exact SH.rsO H (by (repeat first | exact At.here | apply At.there); done) | exact (Rs.nil : Rs Non _ _ _)) ?_
      | refine r_len rfl Try.underlying34 rfl ?_
    refine r_lss rfl rfl rfl ?_
    refine LW.nil ?_
    refine thenE_norm (h11 _ _ ?_); clear h11; try clear K11
    refine CW.cond rfl (fun hc3 => ?_) (fun hc3 => ?_)
    · try simp only [decide_eq_true_eq, decide_eq_false_iff_not, Bool.and_eq_true, Bool.or_eq_true, Bool.and_eq_false_iff, Bool.or_eq_false_iff, Bool.not_eq_true', Bool.not_eq_false', beq_iff_eq, bne_iff_ne, ne_eq, Decidable.not_not] at hc3
      refine CW.skip ?_
      refine thenE_norm (h10 _ _ ?_); clear h10; try clear K10
      refine CW.seq (fun K12 h12 => ?_)
      refine CW.block ?_
      refine CW.seq (fun K13 h13 => ?_)
      obtain ⟨a, ha⟩ := get_of_lt (show i < acts.length by omega)
      have hsz := actR_size a.client a.seq
      have hes := (SH.prop H (i := 2) rfl).1.1
      refine CW.region ?_
      refine r_move rfl ?_
      refine r_move rfl ?_
      refine r_indexAddrV rfl Try.underlying34 (by simp only [upd_get, ev, Nat.reduceEqDiff, ↓reduceIte] <;> rfl) rfl (by first | assumption | exact SH.rsR H (by (repeat first | exact At.here | apply At.there); done) | exact SH.rsO H (by (repeat first | exact At.here | apply At.there); done) | exact (Rs.nil : Rs Non _ _ _)) (by exact Try.sizeOf38) (by omega) (by omega) ?_
      refine r_loadA rfl Try.isAgg38 Try.sizeOf38 rfl (by first | exact Rs.cells0 (by first | assumption | exact SH.rsR H (by (repeat first | exact At.here | apply At.there); done) | exact SH.rsO H (by (repeat first | exact At.here | apply At.there); done) | exact (Rs.nil : Rs Non _ _ _)) (by assumption)) (by rfl) ?_
      refine s_alloc (cs := [.int .i64 0, .int .i64 0, .int .i64 0, .int .u8 0, .int .u8 0]) H rfl Try.zeroValue38 rfl ?_
      clear H
      intro b9_4 w9_4 H
      try dsimp only [replC, List.cons_append, List.nil_append, List.append_nil, agg, cellsL, Value.cells, List.toList_toArray, List.set_cons_zero, List.set_cons_succ, spliceL, List.take_succ_cons, List.take_zero, List.drop_succ_cons, List.drop_zero, List.length_cons, List.length_nil, Nat.reduceAdd, Row.cells, Gr.L, Rep.L, Mem.L, Cm.L, Rq.L, Ent.L, ActP.L, Wt.L] at H
      refine s_storeA H Try.sizeOf38 rfl (by simp only [upd_get, ev, Nat.reduceEqDiff, ↓reduceIte] <;> rfl) (by simp only [cellsL, agg, List.toList_toArray, Row.cells, Gr.L, Rep.L, Mem.L, Cm.L, Rq.L, Ent.L, ActP.L, Wt.L] <;> rfl) (by rfl) (by first | rfl | assumption | exact Rs.oneC (by first | assumption | exact SH.rsR H (by (repeat first | exact At.here | apply At.there); done) | exact SH.rsO H (by (repeat first | exact At.here | apply At.there); done) | exact (Rs.nil : Rs Non _ _ _)) | (simp only [List.all_cons, List.all_nil, Bool.and_true, Bool.and_eq_true, Row.cells, Gr.L, Rep.L, Mem.L, Cm.L, Rq.L, Ent.L, ActP.L, Wt.L]; (repeat' constructor) <;> first | rfl | assumption | exact Rs.oneC (by first | assumption | exact SH.rsR H (by (repeat first | exact At.here | apply At.there); done) | exact SH.rsO H (by (repeat first | exact At.here | apply At.there); done) | exact (Rs.nil : Rs Non _ _ _)))) (by (repeat first | exact At.here | apply At.there); done) (by first | (simp; done) | decide | (show _ ≤ _; decide)) ?_
      clear H
      intro w9_5 H
      try dsimp only [replC, List.cons_append, List.nil_append, List.append_nil, agg, cellsL, Value.cells, List.toList_toArray, List.set_cons_zero, List.set_cons_succ, spliceL, List.take_succ_cons, List.take_zero, List.drop_succ_cons, List.drop_zero, List.length_cons, List.length_nil, Nat.reduceAdd, Row.cells, Gr.L, Rep.L, Mem.L, Cm.L, Rq.L, Ent.L, ActP.L, Wt.L] at H
      refine LW.nil ?_
      refine thenE_norm ?_
      refine cut (K := K13) [0, 2, 4, 7, 8, 9, 10] (fun σ => ?_)
      simp only [setL, keepE, upd_get, ev, Nat.reduceEqDiff, ↓reduceIte]
      refine h13 _ _ ?_; clear h13; try clear K13
      refine CW.seq (fun K14 h14 => ?_)
      refine CW.region ?_
      refine r_loadA rfl Try.isAgg38 Try.sizeOf38 rfl (by first | exact SH.cells H (by (repeat first | exact At.here | apply At.there); done)) (by rfl) ?_
      refine r_call rfl Try.call22 (by simp only [List.map_cons, List.map_nil, List.map_toArray, List.toList_toArray, upd_get, ev, Nat.reduceEqDiff, ↓reduceIte] <;> rfl) (req_c _ _) ?_
      rintro _ w10_1 ⟨rfl, X⟩
      refine ⟨_, rfl, ?_⟩
      replace H := SH.same H X
      clear X
      generalize hR : actR a.client a.seq = r at *
      obtain ⟨c, q, k, s, n⟩ := r
      dsimp only at hsz
      refine s_alloc (cs := [.int .i64 0, .int .i64 0, .int .i64 0, .int .i64 0, .string (ByteArray.mk #[])]) H rfl Try.zeroValue29 rfl ?_
      clear H
      intro b10_2 w10_2 H
      try dsimp only [replC, List.cons_append, List.nil_append, List.append_nil, agg, cellsL, Value.cells, List.toList_toArray, List.set_cons_zero, List.set_cons_succ, spliceL, List.take_succ_cons, List.take_zero, List.drop_succ_cons, List.drop_zero, List.length_cons, List.length_nil, Nat.reduceAdd, Row.cells, Gr.L, Rep.L, Mem.L, Cm.L, Rq.L, Ent.L, ActP.L, Wt.L] at H
      refine s_storeA H Try.sizeOf29 rfl (by simp only [upd_get, ev, Nat.reduceEqDiff, ↓reduceIte] <;> rfl) (by simp only [cellsL, agg, List.toList_toArray, Row.cells, Gr.L, Rep.L, Mem.L, Cm.L, Rq.L, Ent.L, ActP.L, Wt.L] <;> rfl) (by rfl) (by first | rfl | assumption | exact Rs.oneC (by first | assumption | exact SH.rsR H (by (repeat first | exact At.here | apply At.there); done) | exact SH.rsO H (by (repeat first | exact At.here | apply At.there); done) | exact (Rs.nil : Rs Non _ _ _)) | (simp only [List.all_cons, List.all_nil, Bool.and_true, Bool.and_eq_true, Row.cells, Gr.L, Rep.L, Mem.L, Cm.L, Rq.L, Ent.L, ActP.L, Wt.L]; (repeat' constructor) <;> first | rfl | assumption | exact Rs.oneC (by first | assumption | exact SH.rsR H (by (repeat first | exact At.here | apply At.there); done) | exact SH.rsO H (by (repeat first | exact At.here | apply At.there); done) | exact (Rs.nil : Rs Non _ _ _)))) (by (repeat first | exact At.here | apply At.there); done) (by first | (simp; done) | decide | (show _ ≤ _; decide)) ?_
      clear H
      intro w10_3 H
      try dsimp only [replC, List.cons_append, List.nil_append, List.append_nil, agg, cellsL, Value.cells, List.toList_toArray, List.set_cons_zero, List.set_cons_succ, spliceL, List.take_succ_cons, List.take_zero, List.drop_succ_cons, List.drop_zero, List.length_cons, List.length_nil, Nat.reduceAdd, Row.cells, Gr.L, Rep.L, Mem.L, Cm.L, Rq.L, Ent.L, ActP.L, Wt.L] at H
      refine LW.nil ?_
      refine thenE_norm (h14 _ _ ?_); clear h14; try clear K14
      refine CW.seqJ [0, 2, 4, 7, 8, 9, 10, 11] [] (fun vs w' => ∃ (es : List Ent) (FN FM : Nat → Prop) (c q k s : Int) (n : ByteArray), vs = [] ∧ okQ es ∧ SH Non Any w w' [.R (Old w) v acts, .B b0_0 29 [.int .i64 rc, .int .i64 rq, .int .i64 rk, .int .i64 rs, .string rn], .P FN (PoolA p es FN), .P FM (RPoolA b3_2 (es.map toW) FM), .B b9_4 38 (Row.cells a), .B b10_2 29 [.int .i64 c, .int .i64 q, .int .i64 k, .int .i64 s, .string n]]) ?_ ?_
      · refine CW.seq (fun K16 h16 => ?_)
        refine CW.region ?_
        refine r_fieldAddrO rfl Try.underlying38 rfl Try.sizeOf3 (by decide) (show _ = 0 from rfl) rfl ?_
        refine r_load rfl Try.isAgg3 rfl (by first | exact SH.cellB H (by (repeat first | exact At.here | apply At.there); done) (by rfl) | assumption) ?_
        refine LW.nil ?_
        refine thenE_norm (h16 _ _ ?_); clear h16; try clear K16
        refine CW.block ?_
        refine CW.seq (fun K17 h17 => ?_)
        refine CW.region ?_
        refine r_eql rfl rfl rfl ?_
        refine r_assign rfl ?_
        refine LW.nil ?_
        refine thenE_norm ?_
        refine cut (K := K17) [0, 2, 4, 7, 8, 9, 10, 11, 43, 60] (fun σ => ?_)
        simp only [setL, keepE, upd_get, ev, Nat.reduceEqDiff, ↓reduceIte]
        refine h17 _ _ ?_; clear h17; try clear K17
        refine CW.cond rfl (fun hc4 => ?_) (fun hc4 => ?_)
        · try simp only [decide_eq_true_eq, decide_eq_false_iff_not, Bool.and_eq_true, Bool.or_eq_true, Bool.and_eq_false_iff, Bool.or_eq_false_iff, Bool.not_eq_true', Bool.not_eq_false', beq_iff_eq, bne_iff_ne, ne_eq, Decidable.not_not] at hc4
          refine CW.seq (fun K18 h18 => ?_)
          refine CW.seq (fun K19 h19 => ?_)
          refine CW.region ?_
          refine r_fieldAddrO rfl Try.underlying38 rfl Try.sizeOf5 (by decide) (show _ = 3 from rfl) rfl ?_
          refine r_load rfl Try.isAgg5 rfl (by first | exact SH.cellB H (by (repeat first | exact At.here | apply At.there); done) (by rfl) | assumption) ?_
          refine r_eql rfl rfl rfl ?_
          refine LW.nil ?_
          refine thenE_norm (h19 _ _ ?_); clear h19; try clear K19
          refine CW.cond rfl (fun hc5 => ?_) (fun hc5 => ?_)
          · try simp only [decide_eq_true_eq, decide_eq_false_iff_not, Bool.and_eq_true, Bool.or_eq_true, Bool.and_eq_false_iff, Bool.or_eq_false_iff, Bool.not_eq_true', Bool.not_eq_false', beq_iff_eq, bne_iff_ne, ne_eq, Decidable.not_not] at hc5
            refine CW.region ?_
            refine r_loadA rfl Try.isAgg29 Try.sizeOf29 rfl (by first | exact SH.cells H (by (repeat first | exact At.here | apply At.there); done)) (by rfl) ?_
            refine s_storeA H Try.sizeOf29 rfl (by simp only [upd_get, ev, Nat.reduceEqDiff, ↓reduceIte] <;> rfl) (by simp only [cellsL, agg, List.toList_toArray, Row.cells, Gr.L, Rep.L, Mem.L, Cm.L, Rq.L, Ent.L, ActP.L, Wt.L] <;> rfl) (by rfl) (by first | rfl | assumption | exact Rs.oneC (by first | assumption | exact SH.rsR H (by (repeat first | exact At.here | apply At.there); done) | exact SH.rsO H (by (repeat first | exact At.here | apply At.there); done) | exact (Rs.nil : Rs Non _ _ _)) | (simp only [List.all_cons, List.all_nil, Bool.and_true, Bool.and_eq_true, Row.cells, Gr.L, Rep.L, Mem.L, Cm.L, Rq.L, Ent.L, ActP.L, Wt.L]; (repeat' constructor) <;> first | rfl | assumption | exact Rs.oneC (by first | assumption | exact SH.rsR H (by (repeat first | exact At.here | apply At.there); done) | exact SH.rsO H (by (repeat first | exact At.here | apply At.there); done) | exact (Rs.nil : Rs Non _ _ _)))) (by (repeat first | exact At.here | apply At.there); done) (by first | (simp; done) | decide | (show _ ≤ _; decide)) ?_
            clear H
            intro w17_1 H
            try dsimp only [replC, List.cons_append, List.nil_append, List.append_nil, agg, cellsL, Value.cells, List.toList_toArray, List.set_cons_zero, List.set_cons_succ, spliceL, List.take_succ_cons, List.take_zero, List.drop_succ_cons, List.drop_zero, List.length_cons, List.length_nil, Nat.reduceAdd, Row.cells, Gr.L, Rep.L, Mem.L, Cm.L, Rq.L, Ent.L, ActP.L, Wt.L] at H
            refine LW.nil ?_
            refine thenE_norm (h18 _ _ ?_); clear h18; try clear K18
            refine CW.seq (fun K20 h20 => ?_)
            have hadd := add_toW ⟨rc, rq, rk, rs, rn⟩ a.now hok hes
            refine CW.drawP [0, 1, 4, 5] [] H (by dsimp only [pickC, nthC] <;> rfl) (by repeat first | exact List.Sublist.refl _ | exact List.nil_sublist _ | apply List.Sublist.cons_cons | apply List.Sublist.cons) (by kernel_rfl) rfl ?_
            clear H
            intro w18d H
            refine DL.take (i := 0) [] rfl (by kernel_rfl) (by kernel_rfl) (by kernel_rfl) (by kernel_rfl) rfl rfl (fun u H => x_move ) (SH.sub H (by repeat first | exact List.Sublist.refl _ | exact List.nil_sublist _ | apply List.Sublist.cons_cons | apply List.Sublist.cons)) ?_
            refine DL.take (i := 1) [] rfl (by kernel_rfl) (by kernel_rfl) (by kernel_rfl) (by kernel_rfl) rfl rfl (fun u H => x_loadA Try.isAgg29 Try.sizeOf29 rfl (by first | exact SH.cells H (by (repeat first | exact At.here | apply At.there); done)) (by rfl)) (SH.sub H (by repeat first | exact List.Sublist.refl _ | exact List.nil_sublist _ | apply List.Sublist.cons_cons | apply List.Sublist.cons)) ?_
            refine DL.take (i := 2) [] rfl (by kernel_rfl) (by kernel_rfl) (by kernel_rfl) (by kernel_rfl) rfl rfl (fun u H => x_fieldAddrO Try.underlying38 rfl Try.sizeOf3 (by decide) (show _ = 1 from rfl) rfl) (SH.sub H (by repeat first | exact List.Sublist.refl _ | exact List.nil_sublist _ | apply List.Sublist.cons_cons | apply List.Sublist.cons)) ?_
            refine DL.take (i := 3) [] rfl (by kernel_rfl) (by kernel_rfl) (by kernel_rfl) (by kernel_rfl) rfl rfl (fun u H => x_load Try.isAgg3 rfl (by first | exact SH.cellB H (by (repeat first | exact At.here | apply At.there); done) (by rfl) | assumption)) (SH.sub H (by repeat first | exact List.Sublist.refl _ | exact List.nil_sublist _ | apply List.Sublist.cons_cons | apply List.Sublist.cons)) ?_
            refine DL.take (i := 5) [] rfl (by kernel_rfl) (by kernel_rfl) (by kernel_rfl) (by kernel_rfl) rfl rfl (fun u H => x_move ) (SH.sub H (by repeat first | exact List.Sublist.refl _ | exact List.nil_sublist _ | apply List.Sublist.cons_cons | apply List.Sublist.cons)) ?_
            refine DL.take (i := 6) [] rfl (by kernel_rfl) (by kernel_rfl) (by kernel_rfl) (by kernel_rfl) rfl rfl (fun u H => x_loadA Try.isAgg29 Try.sizeOf29 rfl (by first | exact SH.cells H (by (repeat first | exact At.here | apply At.there); done)) (by rfl)) (SH.sub H (by repeat first | exact List.Sublist.refl _ | exact List.nil_sublist _ | apply List.Sublist.cons_cons | apply List.Sublist.cons)) ?_
            refine DL.take (i := 7) [] rfl (by kernel_rfl) (by kernel_rfl) (by kernel_rfl) (by kernel_rfl) rfl rfl (fun u H => x_fieldAddrO Try.underlying38 rfl Try.sizeOf3 (by decide) (show _ = 1 from rfl) rfl) (SH.sub H (by repeat first | exact List.Sublist.refl _ | exact List.nil_sublist _ | apply List.Sublist.cons_cons | apply List.Sublist.cons)) ?_
            refine DL.take (i := 8) [] rfl (by kernel_rfl) (by kernel_rfl) (by kernel_rfl) (by kernel_rfl) rfl rfl (fun u H => x_load Try.isAgg3 rfl (by first | exact SH.cellB H (by (repeat first | exact At.here | apply At.there); done) (by rfl) | assumption)) (SH.sub H (by repeat first | exact List.Sublist.refl _ | exact List.nil_sublist _ | apply List.Sublist.cons_cons | apply List.Sublist.cons)) ?_
            refine DL.one (i := 4) (by kernel_rfl) rfl rfl ?_
            refine r_call rfl Try.call19 (by simp only [List.map_cons, List.map_nil, List.map_toArray, List.toList_toArray, upd_get, ev, Nat.reduceEqDiff, ↓reduceIte] <;> rfl) (Add_c ⟨_, _, ⟨_, _, _⟩⟩ _ _ (SH.prop H (by (repeat first | exact At.here | apply At.there); done)) (by first | assumption | decide)) ?_
            rintro _ w18_4 ⟨FN18_4, rfl, K⟩
            refine ⟨_, rfl, ?_⟩
            replace H := SH.updP H (by (repeat first | exact At.here | apply At.there); done) K
            clear K
            try dsimp only [replC, List.cons_append, List.nil_append, List.append_nil] at H
            refine LW.nil (thenE_norm ⟨fun _ => (SH.sub H (by repeat first | exact List.Sublist.refl _ | exact List.nil_sublist _ | apply List.Sublist.cons_cons | apply List.Sublist.cons)), ?_⟩)
            refine DL.one (i := 9) (by kernel_rfl) rfl rfl ?_
            refine r_call rfl Try.call49 (by simp only [List.map_cons, List.map_nil, List.map_toArray, List.toList_toArray, upd_get, ev, Nat.reduceEqDiff, ↓reduceIte] <;> rfl) (RAdd_c ⟨_, _, ⟨_, _, _⟩⟩ _ _ (SH.prop H (by (repeat first | exact At.here | apply At.there); done))) ?_
            rintro _ w18_9 ⟨FN18_9, rfl, K⟩
            refine ⟨_, rfl, ?_⟩
            replace H := SH.updP H (by (repeat first | exact At.here | apply At.there); done) K
            clear K
            try dsimp only [replC, List.cons_append, List.nil_append, List.append_nil] at H
            rw [hadd.1] at H ⊢
            dsimp only at H ⊢
            refine LW.nil (thenE_norm ⟨fun _ => (SH.sub H (by repeat first | exact List.Sublist.refl _ | exact List.nil_sublist _ | apply List.Sublist.cons_cons | apply List.Sublist.cons)), ?_⟩)
            refine DL.take (i := 10) [] rfl (by kernel_rfl) (by kernel_rfl) (by kernel_rfl) (by kernel_rfl) rfl rfl (fun u H => x_neq rfl rfl) (SH.sub H (by repeat first | exact List.Sublist.refl _ | exact List.nil_sublist _ | apply List.Sublist.cons_cons | apply List.Sublist.cons)) ?_
            refine DL.done (by kernel_rfl) ?_
            refine thenE_norm ?_
            refine cut (K := K20) [0, 2, 4, 7, 8, 9, 10, 11, 76] (fun σ => ?_)
            simp only [setL, keepE, upd_get, ev, Nat.reduceEqDiff, ↓reduceIte]
            refine h20 _ _ ?_; clear h20; try clear K20
            refine CW.condF rfl (by simp) ?_
            refine CW.skip ?_
            refine blockE_norm ?_
            refine thenE_norm ?_
            exact ⟨rfl, _, _, _, _, _, _, _, _, rfl, hadd.2, SH.sel H [0, 1, 2, 3, 4, 5] (by decide) rfl⟩
          · try simp only [decide_eq_true_eq, decide_eq_false_iff_not, Bool.and_eq_true, Bool.or_eq_true, Bool.and_eq_false_iff, Bool.or_eq_false_iff, Bool.not_eq_true', Bool.not_eq_false', beq_iff_eq, bne_iff_ne, ne_eq, Decidable.not_not] at hc5
            refine CW.skip ?_
            refine thenE_norm (h18 _ _ ?_); clear h18; try clear K18
            refine CW.seq (fun K21 h21 => ?_)
            have hadd := add_toW ⟨c, q, k, s, n⟩ a.now hok hes
            refine CW.drawP [0, 1, 4, 5] [] H (by dsimp only [pickC, nthC] <;> rfl) (by repeat first | exact List.Sublist.refl _ | exact List.nil_sublist _ | apply List.Sublist.cons_cons | apply List.Sublist.cons) (by kernel_rfl) rfl ?_
            clear H
            intro w18d H
            refine DL.take (i := 0) [] rfl (by kernel_rfl) (by kernel_rfl) (by kernel_rfl) (by kernel_rfl) rfl rfl (fun u H => x_move ) (SH.sub H (by repeat first | exact List.Sublist.refl _ | exact List.nil_sublist _ | apply List.Sublist.cons_cons | apply List.Sublist.cons)) ?_
            refine DL.take (i := 1) [] rfl (by kernel_rfl) (by kernel_rfl) (by kernel_rfl) (by kernel_rfl) rfl rfl (fun u H => x_loadA Try.isAgg29 Try.sizeOf29 rfl (by first | exact SH.cells H (by (repeat first | exact At.here | apply At.there); done)) (by rfl)) (SH.sub H (by repeat first | exact List.Sublist.refl _ | exact List.nil_sublist _ | apply List.Sublist.cons_cons | apply List.Sublist.cons)) ?_
            refine DL.take (i := 2) [] rfl (by kernel_rfl) (by kernel_rfl) (by kernel_rfl) (by kernel_rfl) rfl rfl (fun u H => x_fieldAddrO Try.underlying38 rfl Try.sizeOf3 (by decide) (show _ = 1 from rfl) rfl) (SH.sub H (by repeat first | exact List.Sublist.refl _ | exact List.nil_sublist _ | apply List.Sublist.cons_cons | apply List.Sublist.cons)) ?_
            refine DL.take (i := 3) [] rfl (by kernel_rfl) (by kernel_rfl) (by kernel_rfl) (by kernel_rfl) rfl rfl (fun u H => x_load Try.isAgg3 rfl (by first | exact SH.cellB H (by (repeat first | exact At.here | apply At.there); done) (by rfl) | assumption)) (SH.sub H (by repeat first | exact List.Sublist.refl _ | exact List.nil_sublist _ | apply List.Sublist.cons_cons | apply List.Sublist.cons)) ?_
            refine DL.take (i := 5) [] rfl (by kernel_rfl) (by kernel_rfl) (by kernel_rfl) (by kernel_rfl) rfl rfl (fun u H => x_move ) (SH.sub H (by repeat first | exact List.Sublist.refl _ | exact List.nil_sublist _ | apply List.Sublist.cons_cons | apply List.Sublist.cons)) ?_
            refine DL.take (i := 6) [] rfl (by kernel_rfl) (by kernel_rfl) (by kernel_rfl) (by kernel_rfl) rfl rfl (fun u H => x_loadA Try.isAgg29 Try.sizeOf29 rfl (by first | exact SH.cells H (by (repeat first | exact At.here | apply At.there); done)) (by rfl)) (SH.sub H (by repeat first | exact List.Sublist.refl _ | exact List.nil_sublist _ | apply List.Sublist.cons_cons | apply List.Sublist.cons)) ?_
            refine DL.take (i := 7) [] rfl (by kernel_rfl) (by kernel_rfl) (by kernel_rfl) (by kernel_rfl) rfl rfl (fun u H => x_fieldAddrO Try.underlying38 rfl Try.sizeOf3 (by decide) (show _ = 1 from rfl) rfl) (SH.sub H (by repeat first | exact List.Sublist.refl _ | exact List.nil_sublist _ | apply List.Sublist.cons_cons | apply List.Sublist.cons)) ?_
            refine DL.take (i := 8) [] rfl (by kernel_rfl) (by kernel_rfl) (by kernel_rfl) (by kernel_rfl) rfl rfl (fun u H => x_load Try.isAgg3 rfl (by first | exact SH.cellB H (by (repeat first | exact At.here | apply At.there); done) (by rfl) | assumption)) (SH.sub H (by repeat first | exact List.Sublist.refl _ | exact List.nil_sublist _ | apply List.Sublist.cons_cons | apply List.Sublist.cons)) ?_
            refine DL.one (i := 4) (by kernel_rfl) rfl rfl ?_
            refine r_call rfl Try.call19 (by simp only [List.map_cons, List.map_nil, List.map_toArray, List.toList_toArray, upd_get, ev, Nat.reduceEqDiff, ↓reduceIte] <;> rfl) (Add_c ⟨_, _, ⟨_, _, _⟩⟩ _ _ (SH.prop H (by (repeat first | exact At.here | apply At.there); done)) (by first | assumption | decide)) ?_
            rintro _ w18_4 ⟨FN18_4, rfl, K⟩
            refine ⟨_, rfl, ?_⟩
            replace H := SH.updP H (by (repeat first | exact At.here | apply At.there); done) K
            clear K
            try dsimp only [replC, List.cons_append, List.nil_append, List.append_nil] at H
            refine LW.nil (thenE_norm ⟨fun _ => (SH.sub H (by repeat first | exact List.Sublist.refl _ | exact List.nil_sublist _ | apply List.Sublist.cons_cons | apply List.Sublist.cons)), ?_⟩)
            refine DL.one (i := 9) (by kernel_rfl) rfl rfl ?_
            refine r_call rfl Try.call49 (by simp only [List.map_cons, List.map_nil, List.map_toArray, List.toList_toArray, upd_get, ev, Nat.reduceEqDiff, ↓reduceIte] <;> rfl) (RAdd_c ⟨_, _, ⟨_, _, _⟩⟩ _ _ (SH.prop H (by (repeat first | exact At.here | apply At.there); done))) ?_
            rintro _ w18_9 ⟨FN18_9, rfl, K⟩
            refine ⟨_, rfl, ?_⟩
            replace H := SH.updP H (by (repeat first | exact At.here | apply At.there); done) K
            clear K
            try dsimp only [replC, List.cons_append, List.nil_append, List.append_nil] at H
            rw [hadd.1] at H ⊢
            dsimp only at H ⊢
            refine LW.nil (thenE_norm ⟨fun _ => (SH.sub H (by repeat first | exact List.Sublist.refl _ | exact List.nil_sublist _ | apply List.Sublist.cons_cons | apply List.Sublist.cons)), ?_⟩)
            refine DL.take (i := 10) [] rfl (by kernel_rfl) (by kernel_rfl) (by kernel_rfl) (by kernel_rfl) rfl rfl (fun u H => x_neq rfl rfl) (SH.sub H (by repeat first | exact List.Sublist.refl _ | exact List.nil_sublist _ | apply List.Sublist.cons_cons | apply List.Sublist.cons)) ?_
            refine DL.done (by kernel_rfl) ?_
            refine thenE_norm ?_
            refine cut (K := K21) [0, 2, 4, 7, 8, 9, 10, 11, 76] (fun σ => ?_)
            simp only [setL, keepE, upd_get, ev, Nat.reduceEqDiff, ↓reduceIte]
            refine h21 _ _ ?_; clear h21; try clear K21
            refine CW.condF rfl (by simp) ?_
            refine CW.skip ?_
            refine blockE_norm ?_
            refine thenE_norm ?_
            exact ⟨rfl, _, _, _, _, _, _, _, _, rfl, hadd.2, SH.sel H [0, 1, 2, 3, 4, 5] (by decide) rfl⟩
        · try simp only [decide_eq_true_eq, decide_eq_false_iff_not, Bool.and_eq_true, Bool.or_eq_true, Bool.and_eq_false_iff, Bool.or_eq_false_iff, Bool.not_eq_true', Bool.not_eq_false', beq_iff_eq, bne_iff_ne, ne_eq, Decidable.not_not] at hc4
          refine CW.seq (fun K22 h22 => ?_)
          refine CW.region ?_
          refine r_eql rfl rfl rfl ?_
          refine r_assign rfl ?_
          refine LW.nil ?_
          refine thenE_norm (h22 _ _ ?_); clear h22; try clear K22
          refine CW.cond rfl (fun hc7 => ?_) (fun hc7 => ?_)
          · try simp only [decide_eq_true_eq, decide_eq_false_iff_not, Bool.and_eq_true, Bool.or_eq_true, Bool.and_eq_false_iff, Bool.or_eq_false_iff, Bool.not_eq_true', Bool.not_eq_false', beq_iff_eq, bne_iff_ne, ne_eq, Decidable.not_not] at hc7
            refine CW.seq (fun K23 h23 => ?_)
            refine CW.region ?_
            refine r_move rfl ?_
            refine r_fieldAddrO rfl Try.underlying38 rfl Try.sizeOf3 (by decide) (show _ = 1 from rfl) rfl ?_
            refine r_load rfl Try.isAgg3 rfl (by first | exact SH.cellB H (by (repeat first | exact At.here | apply At.there); done) (by rfl) | assumption) ?_
            refine r_move rfl ?_
            refine r_call rfl Try.call20 (by simp only [List.map_cons, List.map_nil, List.map_toArray, List.toList_toArray, upd_get, ev, Nat.reduceEqDiff, ↓reduceIte] <;> rfl) (Ready_c _ _ _ (SH.prop H (by (repeat first | exact At.here | apply At.there); done))) ?_
            rintro _ w21_4 ⟨v21_4, g21_4, rfl, K⟩
            refine ⟨_, rfl, ?_⟩
            replace H := SH.call H K
            clear K
            try dsimp only [replC, List.cons_append, List.nil_append, List.append_nil] at H
            refine r_assign rfl ?_
            refine LW.nil ?_
            refine thenE_norm ?_
            refine cut (K := K23) [0, 2, 4, 7, 8, 9, 10, 11, 12] (fun σ => ?_)
            simp only [setL, keepE, upd_get, ev, Nat.reduceEqDiff, ↓reduceIte]
            refine h23 _ _ ?_; clear h23; try clear K23
            refine CW.seq (fun K24 h24 => ?_)
            refine CW.region ?_
            refine r_move rfl ?_
            refine r_fieldAddrO rfl Try.underlying38 rfl Try.sizeOf3 (by decide) (show _ = 2 from rfl) rfl ?_
            refine r_load rfl Try.isAgg3 rfl (by first | exact SH.cellB H (by (repeat first | exact At.here | apply At.there); done) (by rfl) | assumption) ?_
            refine r_move rfl ?_
            refine r_call rfl Try.call27 (by simp only [List.map_cons, List.map_nil, List.map_toArray, List.toList_toArray, upd_get, ev, Nat.reduceEqDiff, ↓reduceIte] <;> rfl) (Mark_c _ _ (SH.prop H (by (repeat first | exact At.here | apply At.there); done)) (by first | assumption | exact SH.rsR H (by (repeat first | exact At.here | apply At.there); done) | exact SH.rsO H (by (repeat first | exact At.here | apply At.there); done) | exact (Rs.nil : Rs Non _ _ _)) (by first | exact SH.apartPO H (by (repeat first | exact At.here | apply At.there); done) (by (repeat first | exact At.here | apply At.there); done) (by decide) | exact SH.apartPR H (by (repeat first | exact At.here | apply At.there); done) (by (repeat first | exact At.here | apply At.there); done) (by decide) | exact fun _ h => h.elim)) ?_
            rintro _ w22_4 ⟨FN22_4, rfl, K⟩
            refine ⟨_, rfl, ?_⟩
            replace H := SH.updP H (by (repeat first | exact At.here | apply At.there); done) K
            clear K
            try dsimp only [replC, List.cons_append, List.nil_append, List.append_nil] at H
            refine LW.nil ?_
            refine thenE_norm (h24 _ _ ?_); clear h24; try clear K24
            refine CW.region ?_
            refine r_move rfl ?_
            refine r_fieldAddrO rfl Try.underlying38 rfl Try.sizeOf3 (by decide) (show _ = 2 from rfl) rfl ?_
            refine r_load rfl Try.isAgg3 rfl (by first | exact SH.cellB H (by (repeat first | exact At.here | apply At.there); done) (by rfl) | assumption) ?_
            refine r_move rfl ?_
            refine r_call rfl Try.call50 (by simp only [List.map_cons, List.map_nil, List.map_toArray, List.toList_toArray, upd_get, ev, Nat.reduceEqDiff, ↓reduceIte] <;> rfl) (RMark_c _ _ (SH.prop H (by (repeat first | exact At.here | apply At.there); done)) (by first | assumption | exact SH.rsR H (by (repeat first | exact At.here | apply At.there); done) | exact SH.rsO H (by (repeat first | exact At.here | apply At.there); done) | exact (Rs.nil : Rs Non _ _ _)) (by first | exact SH.apartPO H (by (repeat first | exact At.here | apply At.there); done) (by (repeat first | exact At.here | apply At.there); done) (by decide) | exact SH.apartPR H (by (repeat first | exact At.here | apply At.there); done) (by (repeat first | exact At.here | apply At.there); done) (by decide) | exact fun _ h => h.elim)) ?_
            rintro _ w23_4 ⟨FN23_4, rfl, K⟩
            refine ⟨_, rfl, ?_⟩
            replace H := SH.updP H (by (repeat first | exact At.here | apply At.there); done) K
            clear K
            try dsimp only [replC, List.cons_append, List.nil_append, List.append_nil] at H
            have hmk := markM_toW a.n (readyM es a.now wait) hok
            rw [hmk.1] at H
            refine LW.nil ?_
            refine blockE_norm ?_
            refine thenE_norm ?_
            exact ⟨rfl, _, _, _, _, _, _, _, _, rfl, hmk.2, SH.sel H [0, 1, 2, 3, 4, 5] (by decide) rfl⟩
          · try simp only [decide_eq_true_eq, decide_eq_false_iff_not, Bool.and_eq_true, Bool.or_eq_true, Bool.and_eq_false_iff, Bool.or_eq_false_iff, Bool.not_eq_true', Bool.not_eq_false', beq_iff_eq, bne_iff_ne, ne_eq, Decidable.not_not] at hc7
            refine CW.seq (fun K25 h25 => ?_)
            refine CW.region ?_
            refine r_eql rfl rfl rfl ?_
            refine r_assign rfl ?_
            refine LW.nil ?_
            refine thenE_norm (h25 _ _ ?_); clear h25; try clear K25
            refine CW.cond rfl (fun hc8 => ?_) (fun hc8 => ?_)
            · try simp only [decide_eq_true_eq, decide_eq_false_iff_not, Bool.and_eq_true, Bool.or_eq_true, Bool.and_eq_false_iff, Bool.or_eq_false_iff, Bool.not_eq_true', Bool.not_eq_false', beq_iff_eq, bne_iff_ne, ne_eq, Decidable.not_not] at hc8
              refine CW.seq (fun K26 h26 => ?_)
              refine CW.region ?_
              refine r_move rfl ?_
              refine r_call rfl Try.call28 (by simp only [List.map_cons, List.map_nil, List.map_toArray, List.toList_toArray, upd_get, ev, Nat.reduceEqDiff, ↓reduceIte] <;> rfl) (Clear_c _ (SH.prop H (by (repeat first | exact At.here | apply At.there); done))) ?_
              rintro _ w25_1 ⟨FN25_1, rfl, K⟩
              refine ⟨_, rfl, ?_⟩
              replace H := SH.updP H (by (repeat first | exact At.here | apply At.there); done) K
              clear K
              try dsimp only [replC, List.cons_append, List.nil_append, List.append_nil] at H
              refine LW.nil ?_
              refine thenE_norm (h26 _ _ ?_); clear h26; try clear K26
              refine CW.region ?_
              refine r_move rfl ?_
              refine r_call rfl Try.call51 (by simp only [List.map_cons, List.map_nil, List.map_toArray, List.toList_toArray, upd_get, ev, Nat.reduceEqDiff, ↓reduceIte] <;> rfl) (RClear_c _ (SH.prop H (by (repeat first | exact At.here | apply At.there); done))) ?_
              rintro _ w26_1 ⟨FN26_1, rfl, K⟩
              refine ⟨_, rfl, ?_⟩
              replace H := SH.updP H (by (repeat first | exact At.here | apply At.there); done) K
              clear K
              try dsimp only [replC, List.cons_append, List.nil_append, List.append_nil] at H
              have hck := clear_toW hok
              rw [hck.1] at H
              refine LW.nil ?_
              refine blockE_norm ?_
              refine thenE_norm ?_
              exact ⟨rfl, _, _, _, _, _, _, _, _, rfl, hck.2, SH.sel H [0, 1, 2, 3, 4, 5] (by decide) rfl⟩
            · try simp only [decide_eq_true_eq, decide_eq_false_iff_not, Bool.and_eq_true, Bool.or_eq_true, Bool.and_eq_false_iff, Bool.or_eq_false_iff, Bool.not_eq_true', Bool.not_eq_false', beq_iff_eq, bne_iff_ne, ne_eq, Decidable.not_not] at hc8
              refine CW.seq (fun K27 h27 => ?_)
              refine CW.region ?_
              refine r_eql rfl rfl rfl ?_
              refine r_assign rfl ?_
              refine LW.nil ?_
              refine thenE_norm (h27 _ _ ?_); clear h27; try clear K27
              refine CW.cond rfl (fun hc9 => ?_) (fun hc9 => ?_)
              · try simp only [decide_eq_true_eq, decide_eq_false_iff_not, Bool.and_eq_true, Bool.or_eq_true, Bool.and_eq_false_iff, Bool.or_eq_false_iff, Bool.not_eq_true', Bool.not_eq_false', beq_iff_eq, bne_iff_ne, ne_eq, Decidable.not_not] at hc9
                refine CW.seq (fun K28 h28 => ?_)
                have htk := told_toW a.n hok
                refine CW.drawP [0, 1, 4, 5] [] H (by dsimp only [pickC, nthC] <;> rfl) (by repeat first | exact List.Sublist.refl _ | exact List.nil_sublist _ | apply List.Sublist.cons_cons | apply List.Sublist.cons) (by kernel_rfl) rfl ?_
                clear H
                intro w28d H
                refine DL.take (i := 0) [] rfl (by kernel_rfl) (by kernel_rfl) (by kernel_rfl) (by kernel_rfl) rfl rfl (fun u H => x_move ) (SH.sub H (by repeat first | exact List.Sublist.refl _ | exact List.nil_sublist _ | apply List.Sublist.cons_cons | apply List.Sublist.cons)) ?_
                refine DL.take (i := 1) [] rfl (by kernel_rfl) (by kernel_rfl) (by kernel_rfl) (by kernel_rfl) rfl rfl (fun u H => x_fieldAddrO Try.underlying38 rfl Try.sizeOf3 (by decide) (show _ = 2 from rfl) rfl) (SH.sub H (by repeat first | exact List.Sublist.refl _ | exact List.nil_sublist _ | apply List.Sublist.cons_cons | apply List.Sublist.cons)) ?_
                refine DL.take (i := 2) [] rfl (by kernel_rfl) (by kernel_rfl) (by kernel_rfl) (by kernel_rfl) rfl rfl (fun u H => x_load Try.isAgg3 rfl (by first | exact SH.cellB H (by (repeat first | exact At.here | apply At.there); done) (by rfl) | assumption)) (SH.sub H (by repeat first | exact List.Sublist.refl _ | exact List.nil_sublist _ | apply List.Sublist.cons_cons | apply List.Sublist.cons)) ?_
                refine DL.take (i := 4) [] rfl (by kernel_rfl) (by kernel_rfl) (by kernel_rfl) (by kernel_rfl) rfl rfl (fun u H => x_move ) (SH.sub H (by repeat first | exact List.Sublist.refl _ | exact List.nil_sublist _ | apply List.Sublist.cons_cons | apply List.Sublist.cons)) ?_
                refine DL.take (i := 5) [] rfl (by kernel_rfl) (by kernel_rfl) (by kernel_rfl) (by kernel_rfl) rfl rfl (fun u H => x_fieldAddrO Try.underlying38 rfl Try.sizeOf3 (by decide) (show _ = 2 from rfl) rfl) (SH.sub H (by repeat first | exact List.Sublist.refl _ | exact List.nil_sublist _ | apply List.Sublist.cons_cons | apply List.Sublist.cons)) ?_
                refine DL.take (i := 6) [] rfl (by kernel_rfl) (by kernel_rfl) (by kernel_rfl) (by kernel_rfl) rfl rfl (fun u H => x_load Try.isAgg3 rfl (by first | exact SH.cellB H (by (repeat first | exact At.here | apply At.there); done) (by rfl) | assumption)) (SH.sub H (by repeat first | exact List.Sublist.refl _ | exact List.nil_sublist _ | apply List.Sublist.cons_cons | apply List.Sublist.cons)) ?_
                refine DL.one (i := 3) (by kernel_rfl) rfl rfl ?_
                refine r_call rfl Try.call52 (by simp only [List.map_cons, List.map_nil, List.map_toArray, List.toList_toArray, upd_get, ev, Nat.reduceEqDiff, ↓reduceIte] <;> rfl) (PFresh_c _ _ (SH.prop H (by (repeat first | exact At.here | apply At.there); done))) ?_
                rintro _ w28_3 ⟨v28_3, g28_3, FN28_3, rfl, K⟩
                refine ⟨_, rfl, ?_⟩
                replace H := SH.updP H (by (repeat first | exact At.here | apply At.there); done) K
                clear K
                try dsimp only [replC, List.cons_append, List.nil_append, List.append_nil] at H
                refine LW.nil (thenE_norm ⟨fun _ => (SH.sub H (by repeat first | exact List.Sublist.refl _ | exact List.nil_sublist _ | apply List.Sublist.cons_cons | apply List.Sublist.cons)), ?_⟩)
                refine DL.one (i := 7) (by kernel_rfl) rfl rfl ?_
                refine r_call rfl Try.call53 (by simp only [List.map_cons, List.map_nil, List.map_toArray, List.toList_toArray, upd_get, ev, Nat.reduceEqDiff, ↓reduceIte] <;> rfl) (RFresh_c _ _ (SH.prop H (by (repeat first | exact At.here | apply At.there); done))) ?_
                rintro _ w28_7 ⟨v28_7, g28_7, FN28_7, rfl, K⟩
                refine ⟨_, rfl, ?_⟩
                replace H := SH.updP H (by (repeat first | exact At.here | apply At.there); done) K
                clear K
                try dsimp only [replC, List.cons_append, List.nil_append, List.append_nil] at H
                rw [htk.1, htk.2.2] at H
                refine LW.nil (thenE_norm ⟨fun _ => (SH.sub H (by repeat first | exact List.Sublist.refl _ | exact List.nil_sublist _ | apply List.Sublist.cons_cons | apply List.Sublist.cons)), ?_⟩)
                refine DL.one (i := 8) (by kernel_rfl) rfl rfl ?_
                refine r_call rfl Try.call26 (by simp only [List.map_cons, List.map_nil, List.map_toArray, List.toList_toArray, upd_get, ev, Nat.reduceEqDiff, ↓reduceIte] <;> rfl) (SameReqs_c _ (by first | assumption | exact SH.rsR H (by (repeat first | exact At.here | apply At.there); done) | exact SH.rsO H (by (repeat first | exact At.here | apply At.there); done) | exact (Rs.nil : Rs Non _ _ _)) (by first | assumption | exact SH.rsR H (by (repeat first | exact At.here | apply At.there); done) | exact SH.rsO H (by (repeat first | exact At.here | apply At.there); done) | exact (Rs.nil : Rs Non _ _ _))) ?_
                rintro _ w28_8 ⟨rfl, X⟩
                refine ⟨_, rfl, ?_⟩
                replace H := SH.same H X
                clear X
                refine LW.nil (thenE_norm ⟨fun _ => (SH.sub H (by repeat first | exact List.Sublist.refl _ | exact List.nil_sublist _ | apply List.Sublist.cons_cons | apply List.Sublist.cons)), ?_⟩)
                refine DL.take (i := 9) [] rfl (by kernel_rfl) (by kernel_rfl) (by kernel_rfl) (by kernel_rfl) rfl rfl (fun u H => x_not rfl) (SH.sub H (by repeat first | exact List.Sublist.refl _ | exact List.nil_sublist _ | apply List.Sublist.cons_cons | apply List.Sublist.cons)) ?_
                refine DL.done (by kernel_rfl) ?_
                refine thenE_norm ?_
                refine cut (K := K28) [0, 2, 4, 7, 8, 9, 10, 11, 111] (fun σ => ?_)
                simp only [setL, keepE, upd_get, ev, Nat.reduceEqDiff, ↓reduceIte]
                refine h28 _ _ ?_; clear h28; try clear K28
                refine CW.condF rfl (by simp) ?_
                refine CW.skip ?_
                refine blockE_norm ?_
                refine thenE_norm ?_
                first
                  | exact ⟨rfl, _, _, _, _, _, _, _, _, rfl, htk.2.1, SH.sel H [0, 1, 2, 3, 4, 5] (by decide) rfl⟩
                  | exact ⟨rfl, _, _, _, _, _, _, _, _, rfl, htk.2.1, SH.sel H [0, 1, 2, 4, 5, 6] (by decide) rfl⟩
                  | exact ⟨rfl, _, _, _, _, _, _, _, _, rfl, htk.2.1, SH.sel H [0, 1, 2, 4, 6, 7] (by decide) rfl⟩
              · try simp only [decide_eq_true_eq, decide_eq_false_iff_not, Bool.and_eq_true, Bool.or_eq_true, Bool.and_eq_false_iff, Bool.or_eq_false_iff, Bool.not_eq_true', Bool.not_eq_false', beq_iff_eq, bne_iff_ne, ne_eq, Decidable.not_not] at hc9
                refine CW.seq (fun K29 h29 => ?_)
                refine CW.region ?_
                refine r_fieldAddrO rfl Try.underlying29 rfl Try.sizeOf3 (by decide) (show _ = 0 from rfl) rfl ?_
                refine r_load rfl Try.isAgg3 rfl (by first | exact SH.cellB H (by (repeat first | exact At.here | apply At.there); done) (by rfl) | assumption) ?_
                refine r_fieldAddrO rfl Try.underlying29 rfl Try.sizeOf3 (by decide) (show _ = 1 from rfl) rfl ?_
                refine r_load rfl Try.isAgg3 rfl (by first | exact SH.cellB H (by (repeat first | exact At.here | apply At.there); done) (by rfl) | assumption) ?_
                refine r_buildQ rfl Try.underlying80 Try.zeroValue80 rfl (pl := [(0, 1), (1, 1), (2, 4)]) (by intro w; simp [go_sem]) (qs := [(0, [_]), (1, [_])]) (cs := [_, _, .int .i64 0, .int .i64 0, .int .i64 0, .slice none 0 0]) ⟨rfl, cells_one (by simp only [upd_get, ev, Nat.reduceEqDiff, ↓reduceIte] <;> rfl) (by first | rfl | exact Rs.oneC (by first | assumption | exact SH.rsR H (by (repeat first | exact At.here | apply At.there); done) | exact SH.rsO H (by (repeat first | exact At.here | apply At.there); done) | exact (Rs.nil : Rs Non _ _ _))), rfl, cells_one (by simp only [upd_get, ev, Nat.reduceEqDiff, ↓reduceIte] <;> rfl) (by first | rfl | exact Rs.oneC (by first | assumption | exact SH.rsR H (by (repeat first | exact At.here | apply At.there); done) | exact SH.rsO H (by (repeat first | exact At.here | apply At.there); done) | exact (Rs.nil : Rs Non _ _ _))), trivial⟩ rfl ?_
                refine r_buildSliceA (vs := [_]) rfl Try.underlying81 Try.sizeOf80 Try.zeroValue80 rfl rfl rfl rfl (by simp only [List.map_cons, List.map_nil, List.toList_toArray, numbered, Nat.reduceAdd, upd_get, ev, Nat.reduceEqDiff, ↓reduceIte] <;> rfl) rfl (by intro v hv; simp only [List.mem_cons, List.not_mem_nil, or_false] at hv; rcases hv with rfl <;> rfl) ?_
                intro b12_5 w12_5 hb12_5 hs12_5 hE12_5 hB12_5
                replace H := SH.call H (SH.fromB hE12_5 hb12_5 hs12_5 hB12_5)
                clear hb12_5 hs12_5 hE12_5 hB12_5
                try dsimp only [replC, List.cons_append, List.nil_append, List.append_nil, agg, cellsL, Value.cells, List.toList_toArray, List.set_cons_zero, List.set_cons_succ, spliceL, List.take_succ_cons, List.take_zero, List.drop_succ_cons, List.drop_zero, List.length_cons, List.length_nil, Nat.reduceAdd, Row.cells, Gr.L, Rep.L, Mem.L, Cm.L, Rq.L, Ent.L, ActP.L, Wt.L] at H
                replace H := SH.row (b := b12_5) (xs := ([⟨_, _, ⟨_, _, _, _⟩⟩] : List Mem)) (n := 1) (cap := 1) H (by (repeat first | exact At.here | apply At.there); done) (by simp only [flat, List.flatMap_cons, List.flatMap_nil, cellsL, agg, List.append_nil, List.cons_append, List.nil_append, List.toList_toArray, Row.cells, Gr.L, Rep.L, Mem.L, Cm.L, Rq.L, Ent.L, ActP.L, Wt.L] <;> rfl) (by intro x hx; first | rfl | (simp at hx; done) | (simp only [List.mem_cons, List.not_mem_nil, or_false] at hx; rcases hx with rfl <;> first | rfl | exact (by first | rfl | assumption | exact Rs.oneC (by first | assumption | exact SH.rsR H (by (repeat first | exact At.here | apply At.there); done) | exact SH.rsO H (by (repeat first | exact At.here | apply At.there); done) | exact (Rs.nil : Rs Non _ _ _)) | (simp only [List.all_cons, List.all_nil, Bool.and_true, Bool.and_eq_true, Row.cells, Gr.L, Rep.L, Mem.L, Cm.L, Rq.L, Ent.L, ActP.L, Wt.L]; (repeat' constructor) <;> first | rfl | assumption | exact Rs.oneC (by first | assumption | exact SH.rsR H (by (repeat first | exact At.here | apply At.there); done) | exact SH.rsO H (by (repeat first | exact At.here | apply At.there); done) | exact (Rs.nil : Rs Non _ _ _)))))) (by rfl) rfl (by decide)
                try dsimp only [replC, List.cons_append, List.nil_append, List.append_nil, agg, cellsL, Value.cells, List.toList_toArray, List.set_cons_zero, List.set_cons_succ, spliceL, List.take_succ_cons, List.take_zero, List.drop_succ_cons, List.drop_zero, List.length_cons, List.length_nil, Nat.reduceAdd, Row.cells, Gr.L, Rep.L, Mem.L, Cm.L, Rq.L, Ent.L, ActP.L, Wt.L] at H
                refine r_assign rfl ?_
                refine LW.nil ?_
                refine thenE_norm ?_
                refine cut (K := K29) [0, 2, 4, 7, 8, 9, 10, 11, 13] (fun σ => ?_)
                simp only [setL, keepE, upd_get, ev, Nat.reduceEqDiff, ↓reduceIte]
                refine h29 _ _ ?_; clear h29; try clear K29
                refine CW.seq (fun K30 h30 => ?_)
                have hup := UpK.one (k := Mem.client) (⟨c, q, ⟨0, 0, 0, .slice none 0 0⟩⟩ : Mem)
                have htr := trim_toW [(⟨c, q, ⟨0, 0, 0, .slice none 0 0⟩⟩ : Mem)] a.n hok
                refine CW.region ?_
                refine r_move rfl ?_
                refine r_move rfl ?_
                refine r_fieldAddrO rfl Try.underlying38 rfl Try.sizeOf3 (by decide) (show _ = 2 from rfl) rfl ?_
                refine r_load rfl Try.isAgg3 rfl (by first | exact SH.cellB H (by (repeat first | exact At.here | apply At.there); done) (by rfl) | assumption) ?_
                refine r_call rfl Try.call54 (by simp only [List.map_cons, List.map_nil, List.map_toArray, List.toList_toArray, upd_get, ev, Nat.reduceEqDiff, ↓reduceIte] <;> rfl) (Trim_c _ _ (SH.prop H (by (repeat first | exact At.here | apply At.there); done)) (by first | assumption | exact SH.rsR H (by (repeat first | exact At.here | apply At.there); done) | exact SH.rsO H (by (repeat first | exact At.here | apply At.there); done) | exact (Rs.nil : Rs Non _ _ _)) (by first | exact SH.apartPO H (by (repeat first | exact At.here | apply At.there); done) (by (repeat first | exact At.here | apply At.there); done) (by decide) | exact SH.apartPR H (by (repeat first | exact At.here | apply At.there); done) (by (repeat first | exact At.here | apply At.there); done) (by decide) | exact fun _ h => h.elim) (by first | omega | (simp only [List.length_append, List.length_cons, List.length_nil]; omega) | (simp; omega)) hup) ?_
                rintro _ w13_4 ⟨FN13_4, rfl, K⟩
                refine ⟨_, rfl, ?_⟩
                replace H := SH.updP H (by (repeat first | exact At.here | apply At.there); done) K
                clear K
                try dsimp only [replC, List.cons_append, List.nil_append, List.append_nil] at H
                refine LW.nil ?_
                refine thenE_norm (h30 _ _ ?_); clear h30; try clear K30
                refine CW.region ?_
                refine r_move rfl ?_
                refine r_move rfl ?_
                refine r_fieldAddrO rfl Try.underlying38 rfl Try.sizeOf3 (by decide) (show _ = 2 from rfl) rfl ?_
                refine r_load rfl Try.isAgg3 rfl (by first | exact SH.cellB H (by (repeat first | exact At.here | apply At.there); done) (by rfl) | assumption) ?_
                refine r_call rfl Try.call55 (by simp only [List.map_cons, List.map_nil, List.map_toArray, List.toList_toArray, upd_get, ev, Nat.reduceEqDiff, ↓reduceIte] <;> rfl) (RTrim_c _ _ (SH.prop H (by (repeat first | exact At.here | apply At.there); done)) (by first | assumption | exact SH.rsR H (by (repeat first | exact At.here | apply At.there); done) | exact SH.rsO H (by (repeat first | exact At.here | apply At.there); done) | exact (Rs.nil : Rs Non _ _ _)) (by first | exact SH.apartPO H (by (repeat first | exact At.here | apply At.there); done) (by (repeat first | exact At.here | apply At.there); done) (by decide) | exact SH.apartPR H (by (repeat first | exact At.here | apply At.there); done) (by (repeat first | exact At.here | apply At.there); done) (by decide) | exact fun _ h => h.elim)) ?_
                rintro _ w14_4 ⟨FN14_4, rfl, K⟩
                refine ⟨_, rfl, ?_⟩
                replace H := SH.updP H (by (repeat first | exact At.here | apply At.there); done) K
                clear K
                try dsimp only [replC, List.cons_append, List.nil_append, List.append_nil] at H
                rw [htr.1] at H
                refine LW.nil ?_
                refine blockE_norm ?_
                refine thenE_norm ?_
                exact ⟨rfl, _, _, _, _, _, _, _, _, rfl, htr.2, SH.sel H [0, 1, 2, 3, 4, 5] (by decide) rfl⟩
      try clear H
      rintro vs wJ σ ⟨es, FN, FM, c, q, k, s, n, rfl, hok, H⟩
      simp only [setL, keepE, upd_get, ev, Nat.reduceEqDiff, ↓reduceIte]
      dsimp only [Row.cells, ActP.L] at H
      refine CW.seq (fun K31 h31 => ?_)
      have hgq := (SH.prop H (i := 2) rfl).1
      have hes := hgq.1
      have hcm : ∀ x ∈ es.map toW, 0 ≤ x.came ∧ x.came ≤ 2305843009213693952 := by
        intro x hx
        obtain ⟨e, he, rfl⟩ := List.mem_map.1 hx
        exact hgq.2 e he
      have hrd := ready_toW a.now wait hok
      have hhas := has_toW es c q
      obtain ⟨hl6, v2, g2, hA2⟩ := SH.prop H (i := 3) rfl
      replace H := SH.unpack H (i := 3) rfl hA2
      clear hA2
      simp only [replC, List.cons_append, List.nil_append] at H
      refine CW.drawH [] H (List.Sublist.refl _) (by kernel_rfl) rfl ?_
      clear H
      intro w30d H
      refine DL.take (i := 0) [] rfl (by kernel_rfl) (by kernel_rfl) (by kernel_rfl) (by kernel_rfl) rfl rfl (fun u H => x_move ) H ?_
      refine DL.take (i := 2) [] rfl (by kernel_rfl) (by kernel_rfl) (by kernel_rfl) (by kernel_rfl) rfl rfl (fun u H => x_move ) H ?_
      refine DL.take (i := 3) [] rfl (by kernel_rfl) (by kernel_rfl) (by kernel_rfl) (by kernel_rfl) rfl rfl (fun u H => x_nilCheck rfl) H ?_
      refine DL.take (i := 4) [] rfl (by kernel_rfl) (by kernel_rfl) (by kernel_rfl) (by kernel_rfl) rfl rfl (fun u H => x_fieldAddrO Try.underlying77 rfl Try.sizeOf75 (by decide) (show _ = 0 from rfl) rfl) H ?_
      refine DL.take (i := 5) [] rfl (by kernel_rfl) (by kernel_rfl) (by kernel_rfl) (by kernel_rfl) rfl rfl (fun u H => x_load Try.isAgg75 rfl (by first | exact SH.cellB H (by (repeat first | exact At.here | apply At.there); done) (by rfl) | assumption)) H ?_
      refine DL.take (i := 6) [] rfl (by kernel_rfl) (by kernel_rfl) (by kernel_rfl) (by kernel_rfl) rfl rfl (fun u H => x_lenV Try.underlying75 (by simp only [upd_get, ev, Nat.reduceEqDiff, ↓reduceIte] <;> rfl) (by first | assumption | exact SH.rsR H (by (repeat first | exact At.here | apply At.there); done) | exact SH.rsO H (by (repeat first | exact At.here | apply At.there); done) | exact (Rs.nil : Rs Non _ _ _))) H ?_
      refine DL.one (i := 1) (by kernel_rfl) rfl rfl ?_
      refine r_call rfl Try.call24 (by simp only [List.map_cons, List.map_nil, List.map_toArray, List.toList_toArray, upd_get, ev, Nat.reduceEqDiff, ↓reduceIte] <;> rfl) (PLen_c _ (SH.prop H (by (repeat first | exact At.here | apply At.there); done))) ?_
      rintro _ _ ⟨rfl, rfl⟩
      refine ⟨_, rfl, ?_⟩
      refine LW.nil (thenE_norm ⟨fun _ => (SH.sub H (by repeat first | exact List.Sublist.refl _ | exact List.nil_sublist _ | apply List.Sublist.cons_cons | apply List.Sublist.cons)), ?_⟩)
      refine DL.take (i := 7) [] rfl (by kernel_rfl) (by kernel_rfl) (by kernel_rfl) (by kernel_rfl) rfl rfl (fun u H => x_neq rfl rfl) (SH.sub H (by repeat first | exact List.Sublist.refl _ | exact List.nil_sublist _ | apply List.Sublist.cons_cons | apply List.Sublist.cons)) ?_
      refine DL.take (i := 8) [] rfl (by kernel_rfl) (by kernel_rfl) (by kernel_rfl) (by kernel_rfl) rfl rfl (fun u H => x_move ) (SH.sub H (by repeat first | exact List.Sublist.refl _ | exact List.nil_sublist _ | apply List.Sublist.cons_cons | apply List.Sublist.cons)) ?_
      refine DL.known (t := 120) (c := false) rfl (by simp) (fun hg30_8 => ?_)
      refine DL.take (i := 9) [] rfl (by kernel_rfl) (by kernel_rfl) (by kernel_rfl) (by kernel_rfl) rfl (wantE rfl rfl hg30_8) (fun u H => x_move ) (SH.sub H (by repeat first | exact List.Sublist.refl _ | exact List.nil_sublist _ | apply List.Sublist.cons_cons | apply List.Sublist.cons)) ?_
      refine DL.take (i := 11) [] rfl (by kernel_rfl) (by kernel_rfl) (by kernel_rfl) (by kernel_rfl) rfl (wantE rfl rfl hg30_8) (fun u H => x_move ) (SH.sub H (by repeat first | exact List.Sublist.refl _ | exact List.nil_sublist _ | apply List.Sublist.cons_cons | apply List.Sublist.cons)) ?_
      refine DL.one (i := 10) (by kernel_rfl) rfl (wantE rfl rfl hg30_8) ?_
      refine r_call rfl Try.call23 (by simp only [List.map_cons, List.map_nil, List.map_toArray, List.toList_toArray, upd_get, ev, Nat.reduceEqDiff, ↓reduceIte] <;> rfl) (List_c _ (SH.prop H (by (repeat first | exact At.here | apply At.there); done))) ?_
      rintro _ w30_10 ⟨v30_10, g30_10, rfl, K⟩
      refine ⟨_, rfl, ?_⟩
      replace H := SH.call H K
      clear K
      try dsimp only [replC, List.cons_append, List.nil_append, List.append_nil] at H
      refine LW.nil (thenE_norm ⟨fun _ => (SH.sub H (by repeat first | exact List.Sublist.refl _ | exact List.nil_sublist _ | apply List.Sublist.cons_cons | apply List.Sublist.cons)), ?_⟩)
      refine DL.one (i := 12) (by kernel_rfl) rfl (wantE rfl rfl hg30_8) ?_
      refine r_call rfl Try.call56 (by simp only [List.map_cons, List.map_nil, List.map_toArray, List.toList_toArray, upd_get, ev, Nat.reduceEqDiff, ↓reduceIte] <;> rfl) (RList_c _ ⟨hl6, v2, g2, SH.objA (SH.sel H [3, 4] (by decide) rfl)⟩) ?_
      rintro _ w30_12 ⟨v30_12, g30_12, rfl, K⟩
      refine ⟨_, rfl, ?_⟩
      replace H := SH.call H K
      clear K
      try dsimp only [replC, List.cons_append, List.nil_append, List.append_nil] at H
      rw [toW_reqs] at H
      refine LW.nil (thenE_norm ⟨fun _ => (SH.sub H (by repeat first | exact List.Sublist.refl _ | exact List.nil_sublist _ | apply List.Sublist.cons_cons | apply List.Sublist.cons)), ?_⟩)
      refine DL.one (i := 13) (by kernel_rfl) rfl (wantE rfl rfl hg30_8) ?_
      refine r_call rfl Try.call26 (by simp only [List.map_cons, List.map_nil, List.map_toArray, List.toList_toArray, upd_get, ev, Nat.reduceEqDiff, ↓reduceIte] <;> rfl) (SameReqs_c _ (by first | assumption | exact SH.rsR H (by (repeat first | exact At.here | apply At.there); done) | exact SH.rsO H (by (repeat first | exact At.here | apply At.there); done) | exact (Rs.nil : Rs Non _ _ _)) (by first | assumption | exact SH.rsR H (by (repeat first | exact At.here | apply At.there); done) | exact SH.rsO H (by (repeat first | exact At.here | apply At.there); done) | exact (Rs.nil : Rs Non _ _ _))) ?_
      rintro _ w30_13 ⟨rfl, X⟩
      refine ⟨_, rfl, ?_⟩
      replace H := SH.same H X
      clear X
      refine LW.nil (thenE_norm ⟨fun _ => (SH.sub H (by repeat first | exact List.Sublist.refl _ | exact List.nil_sublist _ | apply List.Sublist.cons_cons | apply List.Sublist.cons)), ?_⟩)
      refine DL.take (i := 14) [] rfl (by kernel_rfl) (by kernel_rfl) (by kernel_rfl) (by kernel_rfl) rfl (wantE rfl rfl hg30_8) (fun u H => x_not rfl) (SH.sub H (by repeat first | exact List.Sublist.refl _ | exact List.nil_sublist _ | apply List.Sublist.cons_cons | apply List.Sublist.cons)) ?_
      refine DL.take (i := 15) [] rfl (by kernel_rfl) (by kernel_rfl) (by kernel_rfl) (by kernel_rfl) rfl rfl (fun u H => x_pickF rfl hg30_8) (SH.sub H (by repeat first | exact List.Sublist.refl _ | exact List.nil_sublist _ | apply List.Sublist.cons_cons | apply List.Sublist.cons)) ?_
      refine DL.take (i := 16) [] rfl (by kernel_rfl) (by kernel_rfl) (by kernel_rfl) (by kernel_rfl) rfl rfl (fun u H => x_move ) (SH.sub H (by repeat first | exact List.Sublist.refl _ | exact List.nil_sublist _ | apply List.Sublist.cons_cons | apply List.Sublist.cons)) ?_
      refine DL.known (t := 128) (c := false) rfl (by simp) (fun hg30_16 => ?_)
      refine DL.take (i := 17) [] rfl (by kernel_rfl) (by kernel_rfl) (by kernel_rfl) (by kernel_rfl) rfl (wantE rfl rfl hg30_16) (fun u H => x_move ) (SH.sub H (by repeat first | exact List.Sublist.refl _ | exact List.nil_sublist _ | apply List.Sublist.cons_cons | apply List.Sublist.cons)) ?_
      refine DL.take (i := 18) [] rfl (by kernel_rfl) (by kernel_rfl) (by kernel_rfl) (by kernel_rfl) rfl (wantE rfl rfl hg30_16) (fun u H => x_fieldAddrO Try.underlying29 rfl Try.sizeOf3 (by decide) (show _ = 0 from rfl) rfl) (SH.sub H (by repeat first | exact List.Sublist.refl _ | exact List.nil_sublist _ | apply List.Sublist.cons_cons | apply List.Sublist.cons)) ?_
      refine DL.take (i := 19) [] rfl (by kernel_rfl) (by kernel_rfl) (by kernel_rfl) (by kernel_rfl) rfl (wantE rfl rfl hg30_16) (fun u H => x_load Try.isAgg3 rfl (by first | exact SH.cellB H (by (repeat first | exact At.here | apply At.there); done) (by rfl) | assumption)) (SH.sub H (by repeat first | exact List.Sublist.refl _ | exact List.nil_sublist _ | apply List.Sublist.cons_cons | apply List.Sublist.cons)) ?_
      refine DL.take (i := 20) [] rfl (by kernel_rfl) (by kernel_rfl) (by kernel_rfl) (by kernel_rfl) rfl (wantE rfl rfl hg30_16) (fun u H => x_fieldAddrO Try.underlying29 rfl Try.sizeOf3 (by decide) (show _ = 1 from rfl) rfl) (SH.sub H (by repeat first | exact List.Sublist.refl _ | exact List.nil_sublist _ | apply List.Sublist.cons_cons | apply List.Sublist.cons)) ?_
      refine DL.take (i := 21) [] rfl (by kernel_rfl) (by kernel_rfl) (by kernel_rfl) (by kernel_rfl) rfl (wantE rfl rfl hg30_16) (fun u H => x_load Try.isAgg3 rfl (by first | exact SH.cellB H (by (repeat first | exact At.here | apply At.there); done) (by rfl) | assumption)) (SH.sub H (by repeat first | exact List.Sublist.refl _ | exact List.nil_sublist _ | apply List.Sublist.cons_cons | apply List.Sublist.cons)) ?_
      refine DL.take (i := 23) [] rfl (by kernel_rfl) (by kernel_rfl) (by kernel_rfl) (by kernel_rfl) rfl (wantE rfl rfl hg30_16) (fun u H => x_move ) (SH.sub H (by repeat first | exact List.Sublist.refl _ | exact List.nil_sublist _ | apply List.Sublist.cons_cons | apply List.Sublist.cons)) ?_
      refine DL.take (i := 24) [] rfl (by kernel_rfl) (by kernel_rfl) (by kernel_rfl) (by kernel_rfl) rfl (wantE rfl rfl hg30_16) (fun u H => x_fieldAddrO Try.underlying29 rfl Try.sizeOf3 (by decide) (show _ = 0 from rfl) rfl) (SH.sub H (by repeat first | exact List.Sublist.refl _ | exact List.nil_sublist _ | apply List.Sublist.cons_cons | apply List.Sublist.cons)) ?_
      refine DL.take (i := 25) [] rfl (by kernel_rfl) (by kernel_rfl) (by kernel_rfl) (by kernel_rfl) rfl (wantE rfl rfl hg30_16) (fun u H => x_load Try.isAgg3 rfl (by first | exact SH.cellB H (by (repeat first | exact At.here | apply At.there); done) (by rfl) | assumption)) (SH.sub H (by repeat first | exact List.Sublist.refl _ | exact List.nil_sublist _ | apply List.Sublist.cons_cons | apply List.Sublist.cons)) ?_
      refine DL.take (i := 26) [] rfl (by kernel_rfl) (by kernel_rfl) (by kernel_rfl) (by kernel_rfl) rfl (wantE rfl rfl hg30_16) (fun u H => x_fieldAddrO Try.underlying29 rfl Try.sizeOf3 (by decide) (show _ = 1 from rfl) rfl) (SH.sub H (by repeat first | exact List.Sublist.refl _ | exact List.nil_sublist _ | apply List.Sublist.cons_cons | apply List.Sublist.cons)) ?_
      refine DL.take (i := 27) [] rfl (by kernel_rfl) (by kernel_rfl) (by kernel_rfl) (by kernel_rfl) rfl (wantE rfl rfl hg30_16) (fun u H => x_load Try.isAgg3 rfl (by first | exact SH.cellB H (by (repeat first | exact At.here | apply At.there); done) (by rfl) | assumption)) (SH.sub H (by repeat first | exact List.Sublist.refl _ | exact List.nil_sublist _ | apply List.Sublist.cons_cons | apply List.Sublist.cons)) ?_
      refine DL.one (i := 22) (by kernel_rfl) rfl (wantE rfl rfl hg30_16) ?_
      refine r_call rfl Try.call25 (by simp only [List.map_cons, List.map_nil, List.map_toArray, List.toList_toArray, upd_get, ev, Nat.reduceEqDiff, ↓reduceIte] <;> rfl) (Has_c _ _ _ (SH.prop H (by (repeat first | exact At.here | apply At.there); done))) ?_
      rintro _ w30_22 ⟨rfl, X⟩
      refine ⟨_, rfl, ?_⟩
      replace H := SH.same H X
      clear X
      refine LW.nil (thenE_norm ⟨fun _ => (SH.sub H (by repeat first | exact List.Sublist.refl _ | exact List.nil_sublist _ | apply List.Sublist.cons_cons | apply List.Sublist.cons)), ?_⟩)
      refine DL.one (i := 28) (by kernel_rfl) rfl (wantE rfl rfl hg30_16) ?_
      refine r_call rfl Try.call57 (by simp only [List.map_cons, List.map_nil, List.map_toArray, List.toList_toArray, upd_get, ev, Nat.reduceEqDiff, ↓reduceIte] <;> rfl) (RHas_c c q _ ⟨hl6, v2, g2, SH.objA (SH.sel H [3, 4] (by decide) rfl)⟩) ?_
      rintro _ w30_28 ⟨rfl, X⟩
      refine ⟨_, rfl, ?_⟩
      replace H := SH.same H X
      clear X
      refine LW.nil (thenE_norm ⟨fun _ => (SH.sub H (by repeat first | exact List.Sublist.refl _ | exact List.nil_sublist _ | apply List.Sublist.cons_cons | apply List.Sublist.cons)), ?_⟩)
      refine DL.take (i := 29) [] rfl (by kernel_rfl) (by kernel_rfl) (by kernel_rfl) (by kernel_rfl) rfl (wantE rfl rfl hg30_16) (fun u H => x_neqB Try.underlying4 rfl rfl) (SH.sub H (by repeat first | exact List.Sublist.refl _ | exact List.nil_sublist _ | apply List.Sublist.cons_cons | apply List.Sublist.cons)) ?_
      refine DL.take (i := 30) [] rfl (by kernel_rfl) (by kernel_rfl) (by kernel_rfl) (by kernel_rfl) rfl rfl (fun u H => x_pickF rfl hg30_16) (SH.sub H (by repeat first | exact List.Sublist.refl _ | exact List.nil_sublist _ | apply List.Sublist.cons_cons | apply List.Sublist.cons)) ?_
      refine DL.take (i := 31) [] rfl (by kernel_rfl) (by kernel_rfl) (by kernel_rfl) (by kernel_rfl) rfl rfl (fun u H => x_move ) (SH.sub H (by repeat first | exact List.Sublist.refl _ | exact List.nil_sublist _ | apply List.Sublist.cons_cons | apply List.Sublist.cons)) ?_
      refine DL.known (t := 143) (c := false) rfl (by simp [hhas]) (fun hg30_31 => ?_)
      refine DL.take (i := 32) [] rfl (by kernel_rfl) (by kernel_rfl) (by kernel_rfl) (by kernel_rfl) rfl (wantE rfl rfl hg30_31) (fun u H => x_move ) (SH.sub H (by repeat first | exact List.Sublist.refl _ | exact List.nil_sublist _ | apply List.Sublist.cons_cons | apply List.Sublist.cons)) ?_
      refine DL.take (i := 33) [] rfl (by kernel_rfl) (by kernel_rfl) (by kernel_rfl) (by kernel_rfl) rfl (wantE rfl rfl hg30_31) (fun u H => x_fieldAddrO Try.underlying38 rfl Try.sizeOf3 (by decide) (show _ = 1 from rfl) rfl) (SH.sub H (by repeat first | exact List.Sublist.refl _ | exact List.nil_sublist _ | apply List.Sublist.cons_cons | apply List.Sublist.cons)) ?_
      refine DL.take (i := 34) [] rfl (by kernel_rfl) (by kernel_rfl) (by kernel_rfl) (by kernel_rfl) rfl (wantE rfl rfl hg30_31) (fun u H => x_load Try.isAgg3 rfl (by first | exact SH.cellB H (by (repeat first | exact At.here | apply At.there); done) (by rfl) | assumption)) (SH.sub H (by repeat first | exact List.Sublist.refl _ | exact List.nil_sublist _ | apply List.Sublist.cons_cons | apply List.Sublist.cons)) ?_
      refine DL.take (i := 35) [] rfl (by kernel_rfl) (by kernel_rfl) (by kernel_rfl) (by kernel_rfl) rfl (wantE rfl rfl hg30_31) (fun u H => x_move ) (SH.sub H (by repeat first | exact List.Sublist.refl _ | exact List.nil_sublist _ | apply List.Sublist.cons_cons | apply List.Sublist.cons)) ?_
      refine DL.take (i := 37) [] rfl (by kernel_rfl) (by kernel_rfl) (by kernel_rfl) (by kernel_rfl) rfl (wantE rfl rfl hg30_31) (fun u H => x_move ) (SH.sub H (by repeat first | exact List.Sublist.refl _ | exact List.nil_sublist _ | apply List.Sublist.cons_cons | apply List.Sublist.cons)) ?_
      refine DL.take (i := 38) [] rfl (by kernel_rfl) (by kernel_rfl) (by kernel_rfl) (by kernel_rfl) rfl (wantE rfl rfl hg30_31) (fun u H => x_fieldAddrO Try.underlying38 rfl Try.sizeOf3 (by decide) (show _ = 1 from rfl) rfl) (SH.sub H (by repeat first | exact List.Sublist.refl _ | exact List.nil_sublist _ | apply List.Sublist.cons_cons | apply List.Sublist.cons)) ?_
      refine DL.take (i := 39) [] rfl (by kernel_rfl) (by kernel_rfl) (by kernel_rfl) (by kernel_rfl) rfl (wantE rfl rfl hg30_31) (fun u H => x_load Try.isAgg3 rfl (by first | exact SH.cellB H (by (repeat first | exact At.here | apply At.there); done) (by rfl) | assumption)) (SH.sub H (by repeat first | exact List.Sublist.refl _ | exact List.nil_sublist _ | apply List.Sublist.cons_cons | apply List.Sublist.cons)) ?_
      refine DL.take (i := 40) [] rfl (by kernel_rfl) (by kernel_rfl) (by kernel_rfl) (by kernel_rfl) rfl (wantE rfl rfl hg30_31) (fun u H => x_move ) (SH.sub H (by repeat first | exact List.Sublist.refl _ | exact List.nil_sublist _ | apply List.Sublist.cons_cons | apply List.Sublist.cons)) ?_
      refine DL.one (i := 36) (by kernel_rfl) rfl (wantE rfl rfl hg30_31) ?_
      refine r_call rfl Try.call20 (by simp only [List.map_cons, List.map_nil, List.map_toArray, List.toList_toArray, upd_get, ev, Nat.reduceEqDiff, ↓reduceIte] <;> rfl) (Ready_c _ _ _ (SH.prop H (by (repeat first | exact At.here | apply At.there); done))) ?_
      rintro _ w30_36 ⟨v30_36, g30_36, rfl, K⟩
      refine ⟨_, rfl, ?_⟩
      replace H := SH.call H K
      clear K
      try dsimp only [replC, List.cons_append, List.nil_append, List.append_nil] at H
      refine LW.nil (thenE_norm ⟨fun _ => (SH.sub H (by repeat first | exact List.Sublist.refl _ | exact List.nil_sublist _ | apply List.Sublist.cons_cons | apply List.Sublist.cons)), ?_⟩)
      refine DL.one (i := 41) (by kernel_rfl) rfl (wantE rfl rfl hg30_31) ?_
      refine r_call rfl Try.call58 (by simp only [List.map_cons, List.map_nil, List.map_toArray, List.toList_toArray, upd_get, ev, Nat.reduceEqDiff, ↓reduceIte] <;> rfl) (RReady_c a.now wait _ ⟨hl6, v2, g2, SH.objA (SH.sel H [3, 4] (by decide) rfl)⟩ hcm) ?_
      rintro _ w30_41 ⟨v30_41, g30_41, rfl, K⟩
      refine ⟨_, rfl, ?_⟩
      replace H := SH.call H K
      clear K
      try dsimp only [replC, List.cons_append, List.nil_append, List.append_nil] at H
      rw [hrd] at H
      refine LW.nil (thenE_norm ⟨fun _ => (SH.sub H (by repeat first | exact List.Sublist.refl _ | exact List.nil_sublist _ | apply List.Sublist.cons_cons | apply List.Sublist.cons)), ?_⟩)
      refine DL.one (i := 42) (by kernel_rfl) rfl (wantE rfl rfl hg30_31) ?_
      refine r_call rfl Try.call26 (by simp only [List.map_cons, List.map_nil, List.map_toArray, List.toList_toArray, upd_get, ev, Nat.reduceEqDiff, ↓reduceIte] <;> rfl) (SameReqs_c _ (by first | assumption | exact SH.rsR H (by (repeat first | exact At.here | apply At.there); done) | exact SH.rsO H (by (repeat first | exact At.here | apply At.there); done) | exact (Rs.nil : Rs Non _ _ _)) (by first | assumption | exact SH.rsR H (by (repeat first | exact At.here | apply At.there); done) | exact SH.rsO H (by (repeat first | exact At.here | apply At.there); done) | exact (Rs.nil : Rs Non _ _ _))) ?_
      rintro _ w30_42 ⟨rfl, X⟩
      refine ⟨_, rfl, ?_⟩
      replace H := SH.same H X
      clear X
      refine LW.nil (thenE_norm ⟨fun _ => (SH.sub H (by repeat first | exact List.Sublist.refl _ | exact List.nil_sublist _ | apply List.Sublist.cons_cons | apply List.Sublist.cons)), ?_⟩)
      refine DL.take (i := 43) [] rfl (by kernel_rfl) (by kernel_rfl) (by kernel_rfl) (by kernel_rfl) rfl (wantE rfl rfl hg30_31) (fun u H => x_not rfl) (SH.sub H (by repeat first | exact List.Sublist.refl _ | exact List.nil_sublist _ | apply List.Sublist.cons_cons | apply List.Sublist.cons)) ?_
      refine DL.take (i := 44) [] rfl (by kernel_rfl) (by kernel_rfl) (by kernel_rfl) (by kernel_rfl) rfl rfl (fun u H => x_pickF rfl hg30_31) (SH.sub H (by repeat first | exact List.Sublist.refl _ | exact List.nil_sublist _ | apply List.Sublist.cons_cons | apply List.Sublist.cons)) ?_
      refine DL.done (by kernel_rfl) ?_
      refine thenE_norm ?_
      refine cut (K := K31) [0, 2, 4, 7, 8, 9, 156] (fun σ => ?_)
      simp only [setL, keepE, upd_get, ev, Nat.reduceEqDiff, ↓reduceIte]
      refine h31 _ _ ?_; clear h31; try clear K31
      refine CW.condF rfl (by simp) ?_
      refine CW.skip ?_
      refine blockE_norm ?_
      refine thenE_norm (h12 _ _ ?_); clear h12; try clear K12
      refine CW.region ?_
      refine r_move rfl ?_
      refine r_add rfl rfl rfl (wr_i64 (by omega) (by omega)) ?_
      refine r_assign rfl ?_
      refine LW.nil ?_
      refine thenE_norm ⟨rfl, ?_⟩
      obtain ⟨FM2, H3⟩ := RPoolA.mkL hl6 (SH.sel H [3, 4, 0, 1, 2] (by decide) rfl)
      exact ⟨acts.length - (i + 1), by omega, i + 1, _, _, _, rfl, by omega, rfl, hok, SH.sel H3 [1, 2, 3, 0] (by decide) rfl⟩
    · try simp only [decide_eq_true_eq, decide_eq_false_iff_not, Bool.and_eq_true, Bool.or_eq_true, Bool.and_eq_false_iff, Bool.or_eq_false_iff, Bool.not_eq_true', Bool.not_eq_false', beq_iff_eq, bne_iff_ne, ne_eq, Decidable.not_not] at hc3
      refine CW.exit (thenE_exit (thenE_exit (blockE_hit ?_)))
      refine thenE_norm (h8 _ _ ?_); clear h8; try clear K8
      refine CW.seq (fun K32 h32 => ?_)
      refine CW.region ?_
      refine r_call rfl Try.call21 (by simp only [List.map_cons, List.map_nil, List.map_toArray, List.toList_toArray, upd_get, ev, Nat.reduceEqDiff, ↓reduceIte] <;> rfl) (awake19_c _) ?_
      rintro _ w32_0 ⟨rfl, X⟩
      refine ⟨_, rfl, ?_⟩
      replace H := SH.same H X
      clear X
      refine r_assign rfl ?_
      refine LW.nil ?_
      refine thenE_norm (h32 _ _ ?_); clear h32; try clear K32
      refine CW.ret (ret1 Try.results11 (by simp only [upd_get, ev, Nat.reduceEqDiff, ↓reduceIte]; rfl) ?_)
      exact ⟨rfl, H.ext⟩
end Go.Proofs.Ytlfbofnfhhddbaa
