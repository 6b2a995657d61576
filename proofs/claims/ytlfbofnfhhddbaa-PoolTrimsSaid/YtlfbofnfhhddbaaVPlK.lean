/-
  The walks of layer 19's laws, on: what is let go.
-/
import Derived.Test.YtlfbofnfhhddbaaVPlJ
namespace Go.Proofs.Ytlfbofnfhhddbaa
set_option linter.unusedSimpArgs false
set_option linter.unusedVariables false
set_option maxRecDepth 20000
open Go.V Go.RowKit Go.ChangeShapes Go.WideShapes

theorem AddZ_c (r : Rq) (now : Int) (w : World) : Calls Try.prog 19 #[.pointer none, agg r, .int .i64 now] w fun e w' => e = .returned (.int .i64 6) ∧ Ext0 w w' := by
  have H := SH.start (U := Non) (G := Any) w
  refine calls_of_CW Try.func19 rfl Try.ntmps19 (Nat.le_of_ble_eq_true rfl) ?_
  simp only [argE, argFrom, Nat.reduceAdd]
  refine CW.seq (fun K1 h1 => ?_)
  refine CW.region ?_
  refine s_box H rfl (by simp only [upd_get, ev, Nat.reduceEqDiff, ↓reduceIte] <;> rfl) rfl ?_
  clear H
  intro b0_0 w0_0 H
  try dsimp only [replC, List.cons_append, List.nil_append, List.append_nil, agg, cellsL, Value.cells, List.toList_toArray, List.set_cons_zero, List.set_cons_succ, spliceL, List.take_succ_cons, List.take_zero, List.drop_succ_cons, List.drop_zero, List.length_cons, List.length_nil, Nat.reduceAdd, Row.cells, Gr.L, Rep.L, Mem.L, Cm.L, Rq.L, Ent.L, ActP.L] at H
  refine r_assign rfl ?_
  refine LW.nil ?_
  refine thenE_norm (h1 _ _ ?_); clear h1; try clear K1
  refine CW.seq (fun K2 h2 => ?_)
  refine CW.seq (fun K3 h3 => ?_)
  refine CW.region ?_
  refine r_move rfl ?_
  refine r_eqlP rfl Try.underlying22 rfl rfl ?_
  refine LW.nil ?_
  refine thenE_norm (h3 _ _ ?_); clear h3; try clear K3
  refine CW.condT rfl (by first | rfl | (simp only [decide_eq_true_eq, decide_eq_false_iff_not, Bool.and_eq_true, Bool.or_eq_true, Bool.and_eq_false_iff, Bool.or_eq_false_iff, Bool.not_eq_true', Bool.not_eq_false', beq_iff_eq, bne_iff_ne]; omega) | simp_all) ?_
  refine CW.seq (fun K4 h4 => ?_)
  refine CW.region ?_
  refine r_assign rfl ?_
  refine LW.nil ?_
  refine thenE_norm (h4 _ _ ?_); clear h4; try clear K4
  refine CW.ret (thenE_ret (ret1 Try.results19 (by simp only [upd_get, ev, Nat.reduceEqDiff, ↓reduceIte]; rfl) ?_))
  exact ⟨rfl, H.ext⟩
theorem PFreshZ_c (view : Int) (w : World) : Calls Try.prog 52 #[.pointer none, .int .i64 view] w fun e w' => e = .returned (.slice none 0 0) ∧ Ext0 w w' := by
  have H := SH.start (U := Non) (G := Any) w
  refine calls_of_CW Try.func52 rfl Try.ntmps52 (Nat.le_of_ble_eq_true rfl) ?_
  simp only [argE, argFrom, Nat.reduceAdd]
  refine CW.seq (fun K1 h1 => ?_)
  refine CW.region ?_
  refine r_assign rfl ?_
  refine LW.nil ?_
  refine thenE_norm (h1 _ _ ?_); clear h1; try clear K1
  refine CW.seq (fun K2 h2 => ?_)
  refine CW.region ?_
  refine r_assign rfl ?_
  refine LW.nil ?_
  refine thenE_norm (h2 _ _ ?_); clear h2; try clear K2
  refine CW.seq (fun K3 h3 => ?_)
  refine CW.seq (fun K4 h4 => ?_)
  refine CW.region ?_
  refine r_move rfl ?_
  refine r_eqlP rfl Try.underlying22 rfl rfl ?_
  refine LW.nil ?_
  refine thenE_norm (h4 _ _ ?_); clear h4; try clear K4
  refine CW.condT rfl (by first | rfl | (simp only [decide_eq_true_eq, decide_eq_false_iff_not, Bool.and_eq_true, Bool.or_eq_true, Bool.and_eq_false_iff, Bool.or_eq_false_iff, Bool.not_eq_true', Bool.not_eq_false', beq_iff_eq, bne_iff_ne]; omega) | simp_all) ?_
  refine CW.seq (fun K5 h5 => ?_)
  refine CW.region ?_
  refine r_assign rfl ?_
  refine LW.nil ?_
  refine thenE_norm (h5 _ _ ?_); clear h5; try clear K5
  refine CW.ret (thenE_ret (ret1 Try.results52 (by simp only [upd_get, ev, Nat.reduceEqDiff, ↓reduceIte]; rfl) ?_))
  exact ⟨rfl, H.ext⟩
theorem ClearZ_c (w : World) : Calls Try.prog 28 #[.pointer none] w fun e w' => e = .returned (.tuple #[]) ∧ Ext0 w w' := by
  have H := SH.start (U := Non) (G := Any) w
  refine calls_of_CW Try.func28 rfl Try.ntmps28 (Nat.le_of_ble_eq_true rfl) ?_
  simp only [argE, argFrom, Nat.reduceAdd]
  refine CW.seq (fun K1 h1 => ?_)
  refine CW.seq (fun K2 h2 => ?_)
  refine CW.region ?_
  refine r_move rfl ?_
  refine r_eqlP rfl Try.underlying22 rfl rfl ?_
  refine LW.nil ?_
  refine thenE_norm (h2 _ _ ?_); clear h2; try clear K2
  refine CW.condT rfl (by first | rfl | (simp only [decide_eq_true_eq, decide_eq_false_iff_not, Bool.and_eq_true, Bool.or_eq_true, Bool.and_eq_false_iff, Bool.or_eq_false_iff, Bool.not_eq_true', Bool.not_eq_false', beq_iff_eq, bne_iff_ne]; omega) | simp_all) ?_
  refine CW.ret (thenE_ret (ret0 Try.results28 ?_))
  exact ⟨rfl, H.ext⟩
theorem MarkZ_c {v : Value} (slot : Int) (w : World) : Calls Try.prog 27 #[.pointer none, .int .i64 slot, v] w fun e w' => e = .returned (.tuple #[]) ∧ Ext0 w w' := by
  have H := SH.start (U := Non) (G := Any) w
  refine calls_of_CW Try.func27 rfl Try.ntmps27 (Nat.le_of_ble_eq_true rfl) ?_
  simp only [argE, argFrom, Nat.reduceAdd]
  refine CW.seq (fun K1 h1 => ?_)
  refine CW.seq (fun K2 h2 => ?_)
  refine CW.region ?_
  refine r_move rfl ?_
  refine r_eqlP rfl Try.underlying22 rfl rfl ?_
  refine r_move rfl ?_
  refine LW.known (t := 11) (c := true) rfl (by first | rfl | (simp only [decide_eq_true_eq, decide_eq_false_iff_not, Bool.and_eq_true, Bool.or_eq_true, Bool.and_eq_false_iff, Bool.or_eq_false_iff, Bool.not_eq_true', Bool.not_eq_false', beq_iff_eq, bne_iff_ne]; omega) | simp_all) (fun hg0_3 => ?_)
  refine LW.skip rfl (fun _ e => by cases e; decide) rfl hg0_3 ?_
  refine LW.skip rfl (fun _ e => by cases e; decide) rfl hg0_3 ?_
  refine r_pickT rfl rfl hg0_3 ?_
  refine LW.nil ?_
  refine thenE_norm (h2 _ _ ?_); clear h2; try clear K2
  refine CW.condT rfl (by first | rfl | (simp only [decide_eq_true_eq, decide_eq_false_iff_not, Bool.and_eq_true, Bool.or_eq_true, Bool.and_eq_false_iff, Bool.or_eq_false_iff, Bool.not_eq_true', Bool.not_eq_false', beq_iff_eq, bne_iff_ne]; omega) | simp_all) ?_
  refine CW.ret (thenE_ret (ret0 Try.results27 ?_))
  exact ⟨rfl, H.ext⟩

def R5 {α : Type} (f : Nat → α) (k : Nat) : List α := (List.range k).map f
theorem R5_succ {α : Type} (f : Nat → α) (k : Nat) : R5 f (k + 1) = R5 f k ++ [f k] := by simp [R5, List.range_succ]
theorem R5_len {α : Type} (f : Nat → α) (k : Nat) : (R5 f k).length = k := by simp [R5]
def E0 (j : Nat) : Ent := newE (rO j 5) 0
def E1 (v : Int) (j : Nat) : Ent := ⟨rO j 5, 0, false, 0, true, v⟩
def E2 (s v : Int) (j : Nat) : Ent := ⟨rO j 5, 0, decide (j < 3), if j < 3 then s else 0, true, v⟩
theorem E0_add (k : Nat) (h : k < 6) : addM (R5 E0 k) (rO k 5) 0 = (R5 E0 (k + 1), 0) := by
  have hf : (R5 E0 k).find? (isC (rO k 5).client) = none := by
    rw [List.find?_eq_none]
    intro e he
    obtain ⟨j, hj, rfl⟩ := List.mem_map.1 he
    rw [List.mem_range] at hj
    intro h
    rw [isC, decide_eq_true_eq] at h
    have h' : (j : Int) = k := h
    omega
  rw [addM, if_pos (rO_may (by omega) (by omega) (by omega) (by omega)), hf]
  dsimp only
  rw [if_neg (by rw [R5_len]; omega), R5_succ]
  rfl
theorem E0_new (k : Nat) (v : Int) : (newL (R5 E0 k) v).length = k := by
  have : (R5 E0 k).filter (isNew v) = R5 E0 k := List.filter_eq_self.2 fun e he => by
    obtain ⟨j, _, rfl⟩ := List.mem_map.1 he
    rfl
  rw [newL, this, List.length_map, R5_len]
theorem E0_told (k : Nat) (v : Int) : (R5 E0 k).map (toldE v) = R5 (E1 v) k := by
  rw [R5, R5, List.map_map]
  rfl
theorem E1_same {k : Nat} (v : Int) (e : Ent) (h : e ∈ R5 (E1 v) k) : isNew v e = false := by
  obtain ⟨j, _, rfl⟩ := List.mem_map.1 h
  simp [isNew, E1]
theorem E1_new0 (k : Nat) (v : Int) : newL (R5 (E1 v) k) v = [] := by
  have : (R5 (E1 v) k).filter (isNew v) = [] := List.filter_eq_nil_iff.2 fun e he => by rw [E1_same v e he]; decide
  rw [newL, this]; rfl
theorem E1_told0 (k : Nat) (v : Int) : (R5 (E1 v) k).map (toldE v) = R5 (E1 v) k := by
  conv => rhs; rw [← List.map_id (R5 (E1 v) k)]
  exact List.map_congr_left fun e he => by rw [toldE, E1_same v e he]; rfl
theorem E1_isNew (v : Int) (j : Nat) : isNew (v + 1) (E1 v j) = true := by
  simp only [isNew, E1, Bool.not_true, Bool.false_or]
  exact decide_eq_true (by omega)
theorem E1_new1 (k : Nat) (v : Int) : (newL (R5 (E1 v) k) (v + 1)).length = k := by
  have : (R5 (E1 v) k).filter (isNew (v + 1)) = R5 (E1 v) k := List.filter_eq_self.2 fun e he => by
    obtain ⟨j, _, rfl⟩ := List.mem_map.1 he
    exact E1_isNew v j
  rw [newL, this, List.length_map, R5_len]
theorem E1_told1 (k : Nat) (v : Int) : (R5 (E1 v) k).map (toldE (v + 1)) = R5 (E1 (v + 1)) k := by
  rw [R5, R5, List.map_map]
  refine List.map_congr_left fun j _ => ?_
  simp only [Function.comp, toldE]
  rw [if_pos (E1_isNew v j)]
  rfl
theorem head0 {es : List Ent} (h : ∀ e ∈ es, e.came = 0) : firstM es = 0 := by
  unfold firstM
  cases es with
  | nil => rfl
  | cons a t => exact h a (by simp)
theorem ready0 {es : List Ent} (h : ∀ e ∈ waitL es, e.came = 0) : readyM es 9 0 = readyL (waitL es) := by
  have hc : cutM 9 = 9 := by decide
  rw [readyM, head0 h, hc]
  split
  · rfl
  · rename_i hn
    have : (readyL (waitL es)).length = 0 := by omega
    rw [List.length_eq_zero_iff.1 this]
theorem E1_ready (k : Nat) (v : Int) : readyM (R5 (E1 v) k) 9 0 = R5 (fun j => rO j 5) (min k 3) := by
  have hw : waitL (R5 (E1 v) k) = R5 (E1 v) k := List.filter_eq_self.2 fun e he => by
    obtain ⟨j, _, rfl⟩ := List.mem_map.1 he
    rfl
  rw [ready0 (by rw [hw]; intro e he; obtain ⟨j, _, rfl⟩ := List.mem_map.1 he; rfl), hw, readyL, R5, List.map_map, ← List.map_take, List.take_range, Nat.min_comm]
  rfl
theorem E1_mark (k : Nat) (hk : k ≤ 6) (v s : Int) (hs : 1 ≤ s) : markM (R5 (E1 v) k) s (R5 (fun j => rO j 5) (min k 3)) = R5 (E2 s v) k := by
  rw [markM, if_neg (by omega)]
  match k, hk with
  | 0, _ => rfl
  | 1, _ => rfl
  | 2, _ => rfl
  | 3, _ => rfl
  | 4, _ => rfl
  | 5, _ => rfl
  | 6, _ => rfl
def rep0 : Rep := ⟨0, 0, 0, .slice none 0 0⟩
def memT (b : Nat → Bool) (j : Nat) : Mem := ⟨j, if b j then 5 else 4, rep0⟩
theorem memT_up (b : Nat → Bool) (k : Nat) : UpK Mem.client (R5 (memT b) k) := by
  refine UpK.of (List.pairwise_map.2 ?_)
  refine (List.pairwise_lt_range).imp ?_
  intro x y h
  simp only [memT]
  omega
theorem memT_find (b : Nat → Bool) {k j : Nat} (h : j < k) : (R5 (memT b) k).find? (isK Mem.client (j : Int)) = some (memT b j) := by
  have hx : (R5 (memT b) k)[j]? = some (memT b j) := by simp [R5, h]
  refine findK_first hx ?_ (isK_iff.2 rfl)
  rw [List.find?_eq_none]
  intro x hx2 hq
  rw [R5, ← List.map_take, List.take_range] at hx2
  obtain ⟨i, hi, rfl⟩ := List.mem_map.1 hx2
  rw [List.mem_range] at hi
  rw [isK_iff] at hq
  simp only [memT] at hq
  omega
theorem old_E2 (b : Nat → Bool) {k j : Nat} (s v : Int) (h : j < k) : oldE (R5 (memT b) k) (E2 s v j) = b j := by
  show decide (freshM (R5 (memT b) k) (j : Int) 5 ≠ 1) = b j
  rw [freshM, memT_find b h]
  simp only [memT]
  by_cases hb : b j = true
  · simp [hb]
  · simp [hb]
def stayL (b : Nat → Bool) (k : Nat) : List Nat := (List.range k).filter fun j => !b j
theorem stay_lt {b : Nat → Bool} {k j : Nat} (h : j ∈ stayL b k) : j < k ∧ b j = false := by
  have := List.mem_filter.1 h
  exact ⟨List.mem_range.1 this.1, by simpa using this.2⟩
theorem stay_succ (b : Nat → Bool) (k : Nat) : stayL b (k + 1) = stayL b k ++ (if b k then [] else [k]) := by
  rw [stayL, List.range_succ, List.filter_append, ← stayL]
  by_cases hb : b k = true
  · simp [hb]
  · simp [hb]
theorem stay_len (b : Nat → Bool) (k : Nat) : (stayL b k).length ≤ k := by
  have := List.length_filter_le (fun j => !b j) (List.range k)
  rw [List.length_range] at this
  exact this
def E3 (s v d : Int) (j : Nat) : Ent := backE d (E2 s v j)
theorem trim_E2 (b : Nat → Bool) (k : Nat) (s v d : Int) : trimM (R5 (E2 s v) k) (R5 (memT b) k) d = (stayL b k).map (E3 s v d) := by
  have h1 : (List.range k).filter ((fun e => !oldE (R5 (memT b) k) e) ∘ E2 s v) = stayL b k := List.filter_congr fun j hj => by
    have := old_E2 b s v (List.mem_range.1 hj)
    simp only [Function.comp] at this ⊢
    rw [this]
  have h2 : (R5 (E2 s v) k).filter (fun e => !oldE (R5 (memT b) k) e) = (stayL b k).map (E2 s v) := by
    rw [← h1]
    exact List.filter_map
  rw [trimM, h2, List.map_map]
  rfl
theorem E3_req (s v d : Int) (l : List Nat) : (l.map (E3 s v d)).map Ent.req = l.map fun (j : Nat) => rO j 5 := by
  rw [List.map_map]
  refine List.map_congr_left fun j _ => ?_
  simp only [Function.comp, E3, backE]
  split <;> rfl
def wantB (k : Nat) (s d : Int) (j : Nat) : Bool := decide (min k 3 ≤ j) || decide (s ≤ d)
theorem E3_ready (b : Nat → Bool) (k : Nat) (s v d : Int) : ((readyM ((stayL b k).map (E3 s v d)) 9 0).length : Int) = min (((stayL b k).filter (wantB k s d)).length : Int) 3 := by
  have hw : waitL ((stayL b k).map (E3 s v d)) = ((stayL b k).filter (wantB k s d)).map (E3 s v d) := by
    rw [waitL, List.filter_map]
    congr 1
    refine List.filter_congr fun j hj => ?_
    have := (stay_lt hj).1
    simp only [Function.comp, E3, backE, E2, wantB]
    by_cases h3 : j < 3
    · by_cases hd : s ≤ d
      · simp [h3, hd]
      · simp [h3, hd]; omega
    · simp [h3]; omega
  have hc : ∀ e ∈ waitL ((stayL b k).map (E3 s v d)), e.came = 0 := by
    intro e he
    obtain ⟨j, _, rfl⟩ := List.mem_map.1 (List.mem_filter.1 he).1
    simp only [E3, backE]
    split <;> rfl
  rw [ready0 hc, ready_len, hw, List.length_map]
  omega
theorem want_snoc {k : Nat} {s d : Int} {l : List Nat} {i j : Nat} (h : l[i]? = some j) : ((l.take (i + 1)).filter (wantB k s d)).length = ((l.take i).filter (wantB k s d)).length + (if wantB k s d j then 1 else 0) := by
  rw [V.take_snoc h, List.filter_append, List.length_append]
  cases hq : wantB k s d j <;> simp [hq]
theorem bit_rng {told : Int} (h0 : 0 ≤ told) (h1 : told < 256) (j : Nat) : 0 ≤ told / 2 ^ j ∧ told / 2 ^ j < 256 := by
  obtain ⟨t, rfl⟩ := Int.eq_ofNat_of_zero_le h0
  have h : (t : Int) / 2 ^ j = ((t / 2 ^ j : Nat) : Int) := by simp
  have h2 := Nat.div_le_self t (2 ^ j)
  rw [h]
  generalize t / 2 ^ j = q at *
  omega
def bitB (told : Int) (j : Nat) : Bool := decide (told / 2 ^ j % 2 = 1)
set_option maxHeartbeats 4000000 in
theorem PoolTrims_c (n slot done told view : Int) (w : World) (hn : 0 ≤ n ∧ n < 256) (hs : 0 ≤ slot ∧ slot < 256) (hd : 0 ≤ done ∧ done < 256) (ht : 0 ≤ told ∧ told < 256) (hv : 0 ≤ view ∧ view < 256) :
    Calls Try.prog 12 #[.int .u8 n, .int .u8 slot, .int .u8 done, .int .u8 told, .int .u8 view] w fun e w' => e = .returned (.bool true) ∧ Ext0 w w' := by
  have H := SH.start (U := Non) (G := Any) w
  have hk0 := Int.emod_nonneg n (show (6 : Int) ≠ 0 from by decide)
  have hk1 := Int.emod_lt_of_pos n (show (0 : Int) < 6 from by decide)
  obtain ⟨k, hk⟩ : ∃ k : Nat, 1 + n % 6 = k := Int.eq_ofNat_of_zero_le (by omega)
  refine calls_of_CW Try.func12 rfl Try.ntmps12 (Nat.le_of_ble_eq_true rfl) ?_
  simp only [argE, argFrom, Nat.reduceAdd]
  refine CW.seq (fun K1 h1 => ?_)
  refine CW.region ?_
  refine r_assign rfl ?_
  refine LW.nil ?_
  refine thenE_norm (h1 _ _ ?_); clear h1; try clear K1
  refine CW.seq (fun K2 h2 => ?_)
  refine CW.region ?_
  refine r_call rfl Try.call18 (by simp only [List.map_cons, List.map_nil, List.map_toArray, List.toList_toArray, upd_get, ev, Nat.reduceEqDiff, ↓reduceIte] <;> rfl) (PoolNew_c _) ?_
  rintro _ w1_0 ⟨p, FN, rfl, K⟩
  refine ⟨_, rfl, ?_⟩
  replace H := SH.call H K
  clear K
  try dsimp only [replC, List.cons_append, List.nil_append, List.append_nil, agg, cellsL, Value.cells, List.toList_toArray, List.set_cons_zero, List.set_cons_succ, spliceL, List.take_succ_cons, List.take_zero, List.drop_succ_cons, List.drop_zero, List.length_cons, List.length_nil, Nat.reduceAdd, Row.cells, Gr.L, Rep.L, Mem.L, Cm.L, Rq.L, Ent.L, ActP.L] at H
  refine r_assign rfl ?_
  refine LW.nil ?_
  refine thenE_norm (h2 _ _ ?_); clear h2; try clear K2
  refine CW.seq (fun K3 h3 => ?_)
  refine CW.seq (fun K4 h4 => ?_)
  refine CW.region ?_
  refine r_move rfl ?_
  refine r_eqlP rfl Try.underlying22 rfl rfl ?_
  refine LW.nil ?_
  refine thenE_norm (h4 _ _ ?_); clear h4; try clear K4
  refine CW.condF rfl (by first | rfl | (simp only [decide_eq_true_eq, decide_eq_false_iff_not, Bool.and_eq_true, Bool.or_eq_true, Bool.and_eq_false_iff, Bool.or_eq_false_iff, Bool.not_eq_true', Bool.not_eq_false', beq_iff_eq, bne_iff_ne]; omega) | simp_all) ?_
  refine CW.skip ?_
  refine thenE_norm (h3 _ _ ?_); clear h3; try clear K3
  refine CW.seq (fun K5 h5 => ?_)
  refine CW.region ?_
  refine r_move rfl ?_
  refine r_convI rfl Try.underlying5 Try.underlying3 rfl (wr_i64 (by omega) (by omega)) ?_
  refine r_rem rfl rfl rfl (by omega) (by omega) (wr_i64 (by omega) (by omega)) ?_
  refine r_add rfl rfl rfl (wr_i64 (by omega) (by omega)) ?_
  refine r_assign rfl ?_
  refine LW.nil ?_
  refine thenE_norm ?_
  refine cut (K := K5) [1, 2, 3, 4, 11, 12] (fun σ => ?_)
  simp only [setL, keepE, upd_get, ev, Nat.reduceEqDiff, ↓reduceIte]
  refine h5 _ _ ?_; clear h5; try clear K5
  refine CW.seq (fun K6 h6 => ?_)
  refine CW.seq (fun K7 h7 => ?_)
  refine CW.region ?_
  refine r_assign rfl ?_
  refine LW.nil ?_
  refine thenE_norm (h7 _ _ ?_); clear h7; try clear K7
  refine CW.block ?_
  refine CW.loopR [1, 2, 3, 4, 11, 12] [13] (fun m vs w' => ∃ (i : Nat) (FN : Nat → Prop), vs = [.int .i64 i] ∧ i ≤ k ∧ m = k - i ∧ SH Non Any w w' [.P FN (PoolA p (R5 E0 i) FN)]) (k) ?_ ?_
  · exact ⟨0, _, rfl, by omega, by omega, H⟩
  try clear H
  rintro n1 vs1 wL1 σ ⟨i, FN, rfl, hi, rfl, H⟩
  simp only [setL, keepE, upd_get, ev, Nat.reduceEqDiff, ↓reduceIte]
  refine CW.seq (fun K8 h8 => ?_)
  refine CW.seq (fun K9 h9 => ?_)
  refine CW.region ?_
  refine r_move rfl ?_
  refine r_move rfl ?_
  refine r_lss rfl rfl rfl ?_
  refine LW.nil ?_
  refine thenE_norm (h9 _ _ ?_); clear h9; try clear K9
  refine CW.cond rfl (fun hc2 => ?_) (fun hc2 => ?_)
  · try simp only [decide_eq_true_eq, decide_eq_false_iff_not, Bool.and_eq_true, Bool.or_eq_true, Bool.and_eq_false_iff, Bool.or_eq_false_iff, Bool.not_eq_true', Bool.not_eq_false', beq_iff_eq, bne_iff_ne, ne_eq, Decidable.not_not] at hc2
    refine CW.skip ?_
    refine thenE_norm (h8 _ _ ?_); clear h8; try clear K8
    refine CW.seq (fun K10 h10 => ?_)
    refine CW.block ?_
    refine CW.seq (fun K11 h11 => ?_)
    refine CW.region ?_
    refine r_move rfl ?_
    refine r_move rfl ?_
    refine r_buildQ rfl Try.underlying27 Try.zeroValue27 rfl (pl := [(0, 1), (1, 1), (2, 1)]) (by intro w; simp [go_sem]) (qs := [(0, [_])]) (cs := [_, .int .i64 0, .string (ByteArray.mk #[])]) ⟨rfl, cells_one (by simp only [upd_get, ev, Nat.reduceEqDiff, ↓reduceIte] <;> rfl) (by first | rfl | exact Rs.oneC (by first | assumption | exact SH.rsR H (by (repeat first | exact At.here | apply At.there); done) | exact SH.rsO H (by (repeat first | exact At.here | apply At.there); done) | exact Rs.toH (by first | assumption | exact SH.rsR H (by (repeat first | exact At.here | apply At.there); done) | exact SH.rsO H (by (repeat first | exact At.here | apply At.there); done)) (by omega) | exact Rs.toL (by first | assumption | exact SH.rsR H (by (repeat first | exact At.here | apply At.there); done) | exact SH.rsO H (by (repeat first | exact At.here | apply At.there); done)) (by omega) | exact Rs.toLH (by first | assumption | exact SH.rsR H (by (repeat first | exact At.here | apply At.there); done) | exact SH.rsO H (by (repeat first | exact At.here | apply At.there); done)) (by omega) (by omega) | exact (Rs.nil : Rs Non _ _ _))), trivial⟩ rfl ?_
    refine r_buildQ rfl Try.underlying29 Try.zeroValue29 rfl (pl := [(0, 1), (1, 1), (2, 3)]) (by intro w; simp [go_sem]) (qs := [(0, [_]), (1, [_]), (2, [_, _, _])]) (cs := [_, _, _, _, _]) ⟨rfl, cells_one (by simp only [upd_get, ev, Nat.reduceEqDiff, ↓reduceIte] <;> rfl) (by first | rfl | exact Rs.oneC (by first | assumption | exact SH.rsR H (by (repeat first | exact At.here | apply At.there); done) | exact SH.rsO H (by (repeat first | exact At.here | apply At.there); done) | exact Rs.toH (by first | assumption | exact SH.rsR H (by (repeat first | exact At.here | apply At.there); done) | exact SH.rsO H (by (repeat first | exact At.here | apply At.there); done)) (by omega) | exact Rs.toL (by first | assumption | exact SH.rsR H (by (repeat first | exact At.here | apply At.there); done) | exact SH.rsO H (by (repeat first | exact At.here | apply At.there); done)) (by omega) | exact Rs.toLH (by first | assumption | exact SH.rsR H (by (repeat first | exact At.here | apply At.there); done) | exact SH.rsO H (by (repeat first | exact At.here | apply At.there); done)) (by omega) (by omega) | exact (Rs.nil : Rs Non _ _ _))), rfl, cells_one (by simp only [upd_get, ev, Nat.reduceEqDiff, ↓reduceIte] <;> rfl) (by first | rfl | exact Rs.oneC (by first | assumption | exact SH.rsR H (by (repeat first | exact At.here | apply At.there); done) | exact SH.rsO H (by (repeat first | exact At.here | apply At.there); done) | exact Rs.toH (by first | assumption | exact SH.rsR H (by (repeat first | exact At.here | apply At.there); done) | exact SH.rsO H (by (repeat first | exact At.here | apply At.there); done)) (by omega) | exact Rs.toL (by first | assumption | exact SH.rsR H (by (repeat first | exact At.here | apply At.there); done) | exact SH.rsO H (by (repeat first | exact At.here | apply At.there); done)) (by omega) | exact Rs.toLH (by first | assumption | exact SH.rsR H (by (repeat first | exact At.here | apply At.there); done) | exact SH.rsO H (by (repeat first | exact At.here | apply At.there); done)) (by omega) (by omega) | exact (Rs.nil : Rs Non _ _ _))), rfl, (by simp only [upd_get, ev, Nat.reduceEqDiff, ↓reduceIte, cellsL, agg, List.toList_toArray, Row.cells, Gr.L, Rep.L, Mem.L, Cm.L, Rq.L, Ent.L, ActP.L] <;> rfl), trivial⟩ rfl ?_
    refine r_call rfl Try.call19 (by simp only [List.map_cons, List.map_nil, List.map_toArray, List.toList_toArray, upd_get, ev, Nat.reduceEqDiff, ↓reduceIte] <;> rfl) (Add_c (rO i 5) _ _ (SH.prop H (by (repeat first | exact At.here | apply At.there); done)) (show 0 ≤ _ from by decide)) ?_
    rintro _ w8_4 ⟨FN8_4, rfl, K⟩
    refine ⟨_, rfl, ?_⟩
    replace H := SH.updP H (by (repeat first | exact At.here | apply At.there); done) K
    clear K
    try dsimp only [replC, List.cons_append, List.nil_append, List.append_nil, agg, cellsL, Value.cells, List.toList_toArray, List.set_cons_zero, List.set_cons_succ, spliceL, List.take_succ_cons, List.take_zero, List.drop_succ_cons, List.drop_zero, List.length_cons, List.length_nil, Nat.reduceAdd, Row.cells, Gr.L, Rep.L, Mem.L, Cm.L, Rq.L, Ent.L, ActP.L] at H
    rw [E0_add i (by omega)] at H ⊢
    dsimp only at H ⊢
    refine r_neq rfl rfl rfl ?_
    refine LW.nil ?_
    refine thenE_norm ?_
    refine cut (K := K11) [1, 2, 3, 4, 11, 12, 13, 42] (fun σ => ?_)
    simp only [setL, keepE, upd_get, ev, Nat.reduceEqDiff, ↓reduceIte]
    refine h11 _ _ ?_; clear h11; try clear K11
    refine CW.condF rfl (by first | rfl | (simp only [decide_eq_true_eq, decide_eq_false_iff_not, Bool.and_eq_true, Bool.or_eq_true, Bool.and_eq_false_iff, Bool.or_eq_false_iff, Bool.not_eq_true', Bool.not_eq_false', beq_iff_eq, bne_iff_ne]; omega) | simp_all) ?_
    refine CW.skip ?_
    refine blockE_norm ?_
    refine thenE_norm (h10 _ _ ?_); clear h10; try clear K10
    refine CW.region ?_
    refine r_move rfl ?_
    refine r_add rfl rfl rfl (wr_i64 (by omega) (by omega)) ?_
    refine r_assign rfl ?_
    refine LW.nil ?_
    refine thenE_norm ⟨rfl, ?_⟩
    exact ⟨_, by omega, i + 1, _, rfl, by omega, rfl, H⟩
  · try simp only [decide_eq_true_eq, decide_eq_false_iff_not, Bool.and_eq_true, Bool.or_eq_true, Bool.and_eq_false_iff, Bool.or_eq_false_iff, Bool.not_eq_true', Bool.not_eq_false', beq_iff_eq, bne_iff_ne, ne_eq, Decidable.not_not] at hc2
    refine CW.exit (thenE_exit (thenE_exit (blockE_hit ?_)))
    refine thenE_norm (h6 _ _ ?_); clear h6; try clear K6
    refine CW.seq (fun K12 h12 => ?_)
    obtain rfl : i = k := by omega
    have hn0 := E0_new i view
    have hn2 := E1_new1 i view
    refine CW.region ?_
    refine r_move rfl ?_
    refine r_move rfl ?_
    refine r_convI rfl Try.underlying5 Try.underlying3 rfl (wr_i64 (by omega) (by omega)) ?_
    refine r_call rfl Try.call52 (by simp only [List.map_cons, List.map_nil, List.map_toArray, List.toList_toArray, upd_get, ev, Nat.reduceEqDiff, ↓reduceIte] <;> rfl) (PFresh_c _ _ (SH.prop H (by (repeat first | exact At.here | apply At.there); done))) ?_
    rintro _ w10_3 ⟨v10_3, g10_3, FN10_3, rfl, K⟩
    refine ⟨_, rfl, ?_⟩
    replace H := SH.updP H (by (repeat first | exact At.here | apply At.there); done) K
    clear K
    try dsimp only [replC, List.cons_append, List.nil_append, List.append_nil, agg, cellsL, Value.cells, List.toList_toArray, List.set_cons_zero, List.set_cons_succ, spliceL, List.take_succ_cons, List.take_zero, List.drop_succ_cons, List.drop_zero, List.length_cons, List.length_nil, Nat.reduceAdd, Row.cells, Gr.L, Rep.L, Mem.L, Cm.L, Rq.L, Ent.L, ActP.L] at H
    rw [E0_told] at H
    refine r_assign rfl ?_
    refine LW.nil ?_
    refine thenE_norm ?_
    refine cut (K := K12) [1, 2, 3, 4, 11, 12, 14] (fun σ => ?_)
    simp only [setL, keepE, upd_get, ev, Nat.reduceEqDiff, ↓reduceIte]
    refine h12 _ _ ?_; clear h12; try clear K12
    refine CW.seq (fun K13 h13 => ?_)
    refine CW.region ?_
    refine r_move rfl ?_
    refine r_move rfl ?_
    refine r_convI rfl Try.underlying5 Try.underlying3 rfl (wr_i64 (by omega) (by omega)) ?_
    refine r_call rfl Try.call52 (by simp only [List.map_cons, List.map_nil, List.map_toArray, List.toList_toArray, upd_get, ev, Nat.reduceEqDiff, ↓reduceIte] <;> rfl) (PFresh_c _ _ (SH.prop H (by (repeat first | exact At.here | apply At.there); done))) ?_
    rintro _ w11_3 ⟨v11_3, g11_3, FN11_3, rfl, K⟩
    refine ⟨_, rfl, ?_⟩
    replace H := SH.updP H (by (repeat first | exact At.here | apply At.there); done) K
    clear K
    try dsimp only [replC, List.cons_append, List.nil_append, List.append_nil, agg, cellsL, Value.cells, List.toList_toArray, List.set_cons_zero, List.set_cons_succ, spliceL, List.take_succ_cons, List.take_zero, List.drop_succ_cons, List.drop_zero, List.length_cons, List.length_nil, Nat.reduceAdd, Row.cells, Gr.L, Rep.L, Mem.L, Cm.L, Rq.L, Ent.L, ActP.L] at H
    rw [E1_new0, E1_told0] at H
    refine r_assign rfl ?_
    refine LW.nil ?_
    refine thenE_norm (h13 _ _ ?_); clear h13; try clear K13
    refine CW.seq (fun K14 h14 => ?_)
    refine CW.region ?_
    refine r_move rfl ?_
    refine r_move rfl ?_
    refine r_convI rfl Try.underlying5 Try.underlying3 rfl (wr_i64 (by omega) (by omega)) ?_
    refine r_add rfl rfl rfl (wr_i64 (by omega) (by omega)) ?_
    refine r_call rfl Try.call52 (by simp only [List.map_cons, List.map_nil, List.map_toArray, List.toList_toArray, upd_get, ev, Nat.reduceEqDiff, ↓reduceIte] <;> rfl) (PFresh_c _ _ (SH.prop H (by (repeat first | exact At.here | apply At.there); done))) ?_
    rintro _ w12_4 ⟨v12_4, g12_4, FN12_4, rfl, K⟩
    refine ⟨_, rfl, ?_⟩
    replace H := SH.updP H (by (repeat first | exact At.here | apply At.there); done) K
    clear K
    try dsimp only [replC, List.cons_append, List.nil_append, List.append_nil, agg, cellsL, Value.cells, List.toList_toArray, List.set_cons_zero, List.set_cons_succ, spliceL, List.take_succ_cons, List.take_zero, List.drop_succ_cons, List.drop_zero, List.length_cons, List.length_nil, Nat.reduceAdd, Row.cells, Gr.L, Rep.L, Mem.L, Cm.L, Rq.L, Ent.L, ActP.L] at H
    rw [E1_told1] at H
    refine r_assign rfl ?_
    refine LW.nil ?_
    refine thenE_norm ?_
    refine cut (K := K14) [1, 2, 3, 11, 12, 14, 15, 16] (fun σ => ?_)
    simp only [setL, keepE, upd_get, ev, Nat.reduceEqDiff, ↓reduceIte]
    refine h14 _ _ ?_; clear h14; try clear K14
    refine CW.seq (fun K15 h15 => ?_)
    refine CW.seq (fun K16 h16 => ?_)
    refine CW.region ?_
    refine r_move rfl ?_
    first
      | refine r_lenV rfl Try.underlying30 (by simp only [upd_get, ev, Nat.reduceEqDiff, ↓reduceIte] <;> rfl) (by first | assumption | exact SH.rsR H (by (repeat first | exact At.here | apply At.there); done) | exact SH.rsO H (by (repeat first | exact At.here | apply At.there); done) | exact Rs.toH (by first | assumption | exact SH.rsR H (by (repeat first | exact At.here | apply At.there); done) | exact SH.rsO H (by (repeat first | exact At.here | apply At.there); done)) (by omega) | exact Rs.toL (by first | assumption | exact SH.rsR H (by (repeat first | exact At.here | apply At.there); done) | exact SH.rsO H (by (repeat first | exact At.here | apply At.there); done)) (by omega) | exact Rs.toLH (by first | assumption | exact SH.rsR H (by (repeat first | exact At.here | apply At.there); done) | exact SH.rsO H (by (repeat first | exact At.here | apply At.there); done)) (by omega) (by omega) | exact (Rs.nil : Rs Non _ _ _)) ?_
      | refine r_len rfl Try.underlying30 rfl ?_
    refine r_move rfl ?_
    refine r_neq rfl rfl rfl ?_
    refine r_move rfl ?_
    refine LW.known (t := 60) (c := false) rfl (by simp [hn0]; omega) (fun hg13_5 => ?_)
    refine LW.want rfl rfl hg13_5 ?_
    refine r_move rfl ?_
    refine LW.want rfl rfl hg13_5 ?_
    first
      | refine r_lenV rfl Try.underlying30 (by simp only [upd_get, ev, Nat.reduceEqDiff, ↓reduceIte] <;> rfl) (by first | assumption | exact SH.rsR H (by (repeat first | exact At.here | apply At.there); done) | exact SH.rsO H (by (repeat first | exact At.here | apply At.there); done) | exact Rs.toH (by first | assumption | exact SH.rsR H (by (repeat first | exact At.here | apply At.there); done) | exact SH.rsO H (by (repeat first | exact At.here | apply At.there); done)) (by omega) | exact Rs.toL (by first | assumption | exact SH.rsR H (by (repeat first | exact At.here | apply At.there); done) | exact SH.rsO H (by (repeat first | exact At.here | apply At.there); done)) (by omega) | exact Rs.toLH (by first | assumption | exact SH.rsR H (by (repeat first | exact At.here | apply At.there); done) | exact SH.rsO H (by (repeat first | exact At.here | apply At.there); done)) (by omega) (by omega) | exact (Rs.nil : Rs Non _ _ _)) ?_
      | refine r_len rfl Try.underlying30 rfl ?_
    refine LW.want rfl rfl hg13_5 ?_
    refine r_neq rfl rfl rfl ?_
    refine r_pickF rfl rfl hg13_5 ?_
    refine r_move rfl ?_
    refine LW.known (t := 65) (c := false) rfl (by simp) (fun hg13_10 => ?_)
    refine LW.want rfl rfl hg13_10 ?_
    refine r_move rfl ?_
    refine LW.want rfl rfl hg13_10 ?_
    first
      | refine r_lenV rfl Try.underlying30 (by simp only [upd_get, ev, Nat.reduceEqDiff, ↓reduceIte] <;> rfl) (by first | assumption | exact SH.rsR H (by (repeat first | exact At.here | apply At.there); done) | exact SH.rsO H (by (repeat first | exact At.here | apply At.there); done) | exact Rs.toH (by first | assumption | exact SH.rsR H (by (repeat first | exact At.here | apply At.there); done) | exact SH.rsO H (by (repeat first | exact At.here | apply At.there); done)) (by omega) | exact Rs.toL (by first | assumption | exact SH.rsR H (by (repeat first | exact At.here | apply At.there); done) | exact SH.rsO H (by (repeat first | exact At.here | apply At.there); done)) (by omega) | exact Rs.toLH (by first | assumption | exact SH.rsR H (by (repeat first | exact At.here | apply At.there); done) | exact SH.rsO H (by (repeat first | exact At.here | apply At.there); done)) (by omega) (by omega) | exact (Rs.nil : Rs Non _ _ _)) ?_
      | refine r_len rfl Try.underlying30 rfl ?_
    refine LW.want rfl rfl hg13_10 ?_
    refine r_move rfl ?_
    refine LW.want rfl rfl hg13_10 ?_
    refine r_neq rfl rfl rfl ?_
    refine r_pickF rfl rfl hg13_10 ?_
    refine LW.nil ?_
    refine thenE_norm ?_
    refine cut (K := K16) [1, 2, 3, 11, 12, 70] (fun σ => ?_)
    simp only [setL, keepE, upd_get, ev, Nat.reduceEqDiff, ↓reduceIte]
    refine h16 _ _ ?_; clear h16; try clear K16
    refine CW.condF rfl (by simp [hn2]; omega) ?_
    refine CW.skip ?_
    refine thenE_norm (h15 _ _ ?_); clear h15; try clear K15
    refine CW.seq (fun K17 h17 => ?_)
    refine CW.region ?_
    refine r_move rfl ?_
    refine r_call rfl Try.call20 (by simp only [List.map_cons, List.map_nil, List.map_toArray, List.toList_toArray, upd_get, ev, Nat.reduceEqDiff, ↓reduceIte] <;> rfl) (Ready_c _ _ _ (SH.prop H (by (repeat first | exact At.here | apply At.there); done))) ?_
    rintro _ w15_1 ⟨v15_1, g15_1, rfl, K⟩
    refine ⟨_, rfl, ?_⟩
    replace H := SH.call H K
    clear K
    try dsimp only [replC, List.cons_append, List.nil_append, List.append_nil, agg, cellsL, Value.cells, List.toList_toArray, List.set_cons_zero, List.set_cons_succ, spliceL, List.take_succ_cons, List.take_zero, List.drop_succ_cons, List.drop_zero, List.length_cons, List.length_nil, Nat.reduceAdd, Row.cells, Gr.L, Rep.L, Mem.L, Cm.L, Rq.L, Ent.L, ActP.L] at H
    rw [E1_ready] at H
    refine r_assign rfl ?_
    refine LW.nil ?_
    refine thenE_norm (h17 _ _ ?_); clear h17; try clear K17
    refine CW.seq (fun K18 h18 => ?_)
    refine CW.region ?_
    refine r_move rfl ?_
    refine r_move rfl ?_
    refine r_convI rfl Try.underlying5 Try.underlying3 rfl (wr_i64 (by omega) (by omega)) ?_
    refine r_add rfl rfl rfl (wr_i64 (by omega) (by omega)) ?_
    refine r_move rfl ?_
    refine r_call rfl Try.call27 (by simp only [List.map_cons, List.map_nil, List.map_toArray, List.toList_toArray, upd_get, ev, Nat.reduceEqDiff, ↓reduceIte] <;> rfl) (Mark_c _ _ (SH.prop H (by (repeat first | exact At.here | apply At.there); done)) (by first | assumption | exact SH.rsR H (by (repeat first | exact At.here | apply At.there); done) | exact SH.rsO H (by (repeat first | exact At.here | apply At.there); done) | exact Rs.toH (by first | assumption | exact SH.rsR H (by (repeat first | exact At.here | apply At.there); done) | exact SH.rsO H (by (repeat first | exact At.here | apply At.there); done)) (by omega) | exact Rs.toL (by first | assumption | exact SH.rsR H (by (repeat first | exact At.here | apply At.there); done) | exact SH.rsO H (by (repeat first | exact At.here | apply At.there); done)) (by omega) | exact Rs.toLH (by first | assumption | exact SH.rsR H (by (repeat first | exact At.here | apply At.there); done) | exact SH.rsO H (by (repeat first | exact At.here | apply At.there); done)) (by omega) (by omega) | exact (Rs.nil : Rs Non _ _ _)) (by first | exact SH.apartPO H (by (repeat first | exact At.here | apply At.there); done) (by (repeat first | exact At.here | apply At.there); done) (by decide) | exact SH.apartPR H (by (repeat first | exact At.here | apply At.there); done) (by (repeat first | exact At.here | apply At.there); done) (by decide) | exact fun _ h => h.elim)) ?_
    rintro _ w16_5 ⟨FN16_5, rfl, K⟩
    refine ⟨_, rfl, ?_⟩
    replace H := SH.updP H (by (repeat first | exact At.here | apply At.there); done) K
    clear K
    try dsimp only [replC, List.cons_append, List.nil_append, List.append_nil, agg, cellsL, Value.cells, List.toList_toArray, List.set_cons_zero, List.set_cons_succ, spliceL, List.take_succ_cons, List.take_zero, List.drop_succ_cons, List.drop_zero, List.length_cons, List.length_nil, Nat.reduceAdd, Row.cells, Gr.L, Rep.L, Mem.L, Cm.L, Rq.L, Ent.L, ActP.L] at H
    rw [E1_mark i (by omega) _ _ (by omega)] at H
    refine LW.nil ?_
    refine thenE_norm ?_
    refine cut (K := K18) [1, 2, 3, 11, 12, 17] (fun σ => ?_)
    simp only [setL, keepE, upd_get, ev, Nat.reduceEqDiff, ↓reduceIte]
    refine h18 _ _ ?_; clear h18; try clear K18
    refine CW.seq (fun K19 h19 => ?_)
    refine CW.region ?_
    refine r_assign rfl ?_
    refine LW.nil ?_
    refine thenE_norm (h19 _ _ ?_); clear h19; try clear K19
    refine CW.seq (fun K20 h20 => ?_)
    refine CW.region ?_
    refine r_assign rfl ?_
    refine LW.nil ?_
    refine thenE_norm (h20 _ _ ?_); clear h20; try clear K20
    refine CW.seq (fun K21 h21 => ?_)
    refine CW.seq (fun K22 h22 => ?_)
    refine CW.region ?_
    refine r_assign rfl ?_
    refine LW.nil ?_
    refine thenE_norm (h22 _ _ ?_); clear h22; try clear K22
    refine CW.block ?_
    refine CW.loopR [1, 2, 3, 11, 12, 17] [18, 19, 20] (fun m vs w' => ∃ (j : Nat) (u : Value) (g : Option Nat), vs = [u, .int .i64 ((stayL (bitB told) j).length : Nat), .int .i64 j] ∧ j ≤ i ∧ m = i - j ∧ SH Non Any w w' [.P FN16_5 (PoolA p (R5 (E2 (1 + slot) (view + 1)) i) FN16_5), .O 29 v15_1 (R5 (fun j => rO j 5) (min i 3)) g15_1, .O 80 u (R5 (memT (bitB told)) j) g]) (i) ?_ ?_
    · exact ⟨0, .slice none 0 0, none, rfl, by omega, by omega, SH.sel (H.addO (α := Mem) 80) [0, 4, 5] (by decide) rfl⟩
    try clear H
    rintro n2 vs2 wL2 σ ⟨j, u, g, rfl, hj, rfl, H⟩
    simp only [setL, keepE, upd_get, ev, Nat.reduceEqDiff, ↓reduceIte]
    refine CW.seq (fun K23 h23 => ?_)
    refine CW.seq (fun K24 h24 => ?_)
    refine CW.region ?_
    refine r_move rfl ?_
    refine r_move rfl ?_
    refine r_lss rfl rfl rfl ?_
    refine LW.nil ?_
    refine thenE_norm (h24 _ _ ?_); clear h24; try clear K24
    refine CW.cond rfl (fun hc5 => ?_) (fun hc5 => ?_)
    · try simp only [decide_eq_true_eq, decide_eq_false_iff_not, Bool.and_eq_true, Bool.or_eq_true, Bool.and_eq_false_iff, Bool.or_eq_false_iff, Bool.not_eq_true', Bool.not_eq_false', beq_iff_eq, bne_iff_ne, ne_eq, Decidable.not_not] at hc5
      refine CW.skip ?_
      refine thenE_norm (h23 _ _ ?_); clear h23; try clear K23
      refine CW.seq (fun K25 h25 => ?_)
      refine CW.block ?_
      refine CW.seq (fun K26 h26 => ?_)
      obtain ⟨hb0, hb1⟩ := bit_rng ht.1 ht.2 j
      have hss := stay_succ (bitB told) j
      have hrs := R5_succ (memT (bitB told)) j
      have hsl := stay_len (bitB told) j
      have hrl := R5_len (memT (bitB told)) j
      refine CW.region ?_
      refine r_move rfl ?_
      refine r_move rfl ?_
      refine r_convI rfl Try.underlying3 Try.underlying84 rfl (wr_u64 (by omega) (by omega)) ?_
      refine r_shr rfl rfl rfl (by omega) (by show _ ≤ 8; omega) ?_
      refine r_and rfl rfl rfl (by simpa using hb0) (by simpa using hb1) ?_
      refine r_eql rfl rfl rfl ?_
      refine LW.nil ?_
      refine thenE_norm ?_
      refine cut (K := K26) [1, 2, 3, 11, 12, 17, 18, 19, 20, 89] (fun σ => ?_)
      simp only [setL, keepE, upd_get, ev, Nat.reduceEqDiff, ↓reduceIte]
      refine h26 _ _ ?_; clear h26; try clear K26
      refine CW.cond rfl (fun hc6 => ?_) (fun hc6 => ?_)
      · try simp only [decide_eq_true_eq, decide_eq_false_iff_not, Bool.and_eq_true, Bool.or_eq_true, Bool.and_eq_false_iff, Bool.or_eq_false_iff, Bool.not_eq_true', Bool.not_eq_false', beq_iff_eq, bne_iff_ne, ne_eq, Decidable.not_not] at hc6
        refine CW.region ?_
        refine r_move rfl ?_
        refine r_move rfl ?_
        refine r_buildQ rfl Try.underlying80 Try.zeroValue80 rfl (pl := [(0, 1), (1, 1), (2, 4)]) (by intro w; simp [go_sem]) (qs := [(0, [_]), (1, [_])]) (cs := [_, _, .int .i64 0, .int .i64 0, .int .i64 0, .slice none 0 0]) ⟨rfl, cells_one (by simp only [upd_get, ev, Nat.reduceEqDiff, ↓reduceIte] <;> rfl) (by first | rfl | exact Rs.oneC (by first | assumption | exact SH.rsR H (by (repeat first | exact At.here | apply At.there); done) | exact SH.rsO H (by (repeat first | exact At.here | apply At.there); done) | exact Rs.toH (by first | assumption | exact SH.rsR H (by (repeat first | exact At.here | apply At.there); done) | exact SH.rsO H (by (repeat first | exact At.here | apply At.there); done)) (by omega) | exact Rs.toL (by first | assumption | exact SH.rsR H (by (repeat first | exact At.here | apply At.there); done) | exact SH.rsO H (by (repeat first | exact At.here | apply At.there); done)) (by omega) | exact Rs.toLH (by first | assumption | exact SH.rsR H (by (repeat first | exact At.here | apply At.there); done) | exact SH.rsO H (by (repeat first | exact At.here | apply At.there); done)) (by omega) (by omega) | exact (Rs.nil : Rs Non _ _ _))), rfl, cells_one (by simp only [upd_get, ev, Nat.reduceEqDiff, ↓reduceIte] <;> rfl) (by first | rfl | exact Rs.oneC (by first | assumption | exact SH.rsR H (by (repeat first | exact At.here | apply At.there); done) | exact SH.rsO H (by (repeat first | exact At.here | apply At.there); done) | exact Rs.toH (by first | assumption | exact SH.rsR H (by (repeat first | exact At.here | apply At.there); done) | exact SH.rsO H (by (repeat first | exact At.here | apply At.there); done)) (by omega) | exact Rs.toL (by first | assumption | exact SH.rsR H (by (repeat first | exact At.here | apply At.there); done) | exact SH.rsO H (by (repeat first | exact At.here | apply At.there); done)) (by omega) | exact Rs.toLH (by first | assumption | exact SH.rsR H (by (repeat first | exact At.here | apply At.there); done) | exact SH.rsO H (by (repeat first | exact At.here | apply At.there); done)) (by omega) (by omega) | exact (Rs.nil : Rs Non _ _ _))), trivial⟩ rfl ?_
        refine r_buildSliceA (vs := [_]) rfl Try.underlying81 Try.sizeOf80 Try.zeroValue80 rfl rfl rfl rfl (by simp only [List.map_cons, List.map_nil, List.toList_toArray, numbered, Nat.reduceAdd, upd_get, ev, Nat.reduceEqDiff, ↓reduceIte] <;> rfl) rfl (by intro v hv; simp only [List.mem_cons, List.not_mem_nil, or_false] at hv; rcases hv with rfl <;> rfl) ?_
        intro b23_3 w23_3 hb23_3 hs23_3 hE23_3 hB23_3
        replace H := SH.call H (SH.fromB hE23_3 hb23_3 hs23_3 hB23_3)
        clear hb23_3 hs23_3 hE23_3 hB23_3
        try dsimp only [replC, List.cons_append, List.nil_append, List.append_nil, agg, cellsL, Value.cells, List.toList_toArray, List.set_cons_zero, List.set_cons_succ, spliceL, List.take_succ_cons, List.take_zero, List.drop_succ_cons, List.drop_zero, List.length_cons, List.length_nil, Nat.reduceAdd, Row.cells, Gr.L, Rep.L, Mem.L, Cm.L, Rq.L, Ent.L, ActP.L] at H
        replace H := SH.row (b := b23_3) (xs := ([⟨j, 5, rep0⟩] : List Mem)) (n := 1) (cap := 1) H (by (repeat first | exact At.here | apply At.there); done) (by simp only [flat, List.flatMap_cons, List.flatMap_nil, cellsL, agg, List.append_nil, List.cons_append, List.nil_append, List.toList_toArray, Row.cells, Gr.L, Rep.L, Mem.L, Cm.L, Rq.L, Ent.L, ActP.L] <;> rfl) (by intro x hx; first | rfl | (simp at hx; done) | (simp only [List.mem_cons, List.not_mem_nil, or_false] at hx; rcases hx with rfl <;> first | rfl | exact (by first | rfl | exact Rs.oneC (by first | assumption | exact SH.rsR H (by (repeat first | exact At.here | apply At.there); done) | exact SH.rsO H (by (repeat first | exact At.here | apply At.there); done) | exact Rs.toH (by first | assumption | exact SH.rsR H (by (repeat first | exact At.here | apply At.there); done) | exact SH.rsO H (by (repeat first | exact At.here | apply At.there); done)) (by omega) | exact Rs.toL (by first | assumption | exact SH.rsR H (by (repeat first | exact At.here | apply At.there); done) | exact SH.rsO H (by (repeat first | exact At.here | apply At.there); done)) (by omega) | exact Rs.toLH (by first | assumption | exact SH.rsR H (by (repeat first | exact At.here | apply At.there); done) | exact SH.rsO H (by (repeat first | exact At.here | apply At.there); done)) (by omega) (by omega) | exact (Rs.nil : Rs Non _ _ _)) | (simp only [List.all_cons, List.all_nil, Bool.and_true, Bool.and_eq_true, Row.cells, Gr.L, Rep.L, Mem.L, Cm.L, Rq.L, Ent.L, ActP.L]; (repeat' constructor) <;> first | rfl | exact Rs.oneC (by first | assumption | exact SH.rsR H (by (repeat first | exact At.here | apply At.there); done) | exact SH.rsO H (by (repeat first | exact At.here | apply At.there); done) | exact Rs.toH (by first | assumption | exact SH.rsR H (by (repeat first | exact At.here | apply At.there); done) | exact SH.rsO H (by (repeat first | exact At.here | apply At.there); done)) (by omega) | exact Rs.toL (by first | assumption | exact SH.rsR H (by (repeat first | exact At.here | apply At.there); done) | exact SH.rsO H (by (repeat first | exact At.here | apply At.there); done)) (by omega) | exact Rs.toLH (by first | assumption | exact SH.rsR H (by (repeat first | exact At.here | apply At.there); done) | exact SH.rsO H (by (repeat first | exact At.here | apply At.there); done)) (by omega) (by omega) | exact (Rs.nil : Rs Non _ _ _)))))) (by rfl) rfl (by decide)
        try dsimp only [replC, List.cons_append, List.nil_append, List.append_nil, agg, cellsL, Value.cells, List.toList_toArray, List.set_cons_zero, List.set_cons_succ, spliceL, List.take_succ_cons, List.take_zero, List.drop_succ_cons, List.drop_zero, List.length_cons, List.length_nil, Nat.reduceAdd, Row.cells, Gr.L, Rep.L, Mem.L, Cm.L, Rq.L, Ent.L, ActP.L] at H
        first
          | refine s_append H rfl Try.underlying81 Try.underlying81 Try.type80 rfl (by simp only [upd_get, ev, Nat.reduceEqDiff, ↓reduceIte] <;> rfl) (by simp only [upd_get, ev, Nat.reduceEqDiff, ↓reduceIte] <;> rfl) (by (repeat first | exact At.here | apply At.there); done) (by first | assumption | exact SH.rsR H (by (repeat first | exact At.here | apply At.there); done) | exact SH.rsO H (by (repeat first | exact At.here | apply At.there); done) | exact Rs.toH (by first | assumption | exact SH.rsR H (by (repeat first | exact At.here | apply At.there); done) | exact SH.rsO H (by (repeat first | exact At.here | apply At.there); done)) (by omega) | exact Rs.toL (by first | assumption | exact SH.rsR H (by (repeat first | exact At.here | apply At.there); done) | exact SH.rsO H (by (repeat first | exact At.here | apply At.there); done)) (by omega) | exact Rs.toLH (by first | assumption | exact SH.rsR H (by (repeat first | exact At.here | apply At.there); done) | exact SH.rsO H (by (repeat first | exact At.here | apply At.there); done)) (by omega) (by omega) | exact (Rs.nil : Rs Non _ _ _)) (by rfl) (by rfl) (by first | omega | (simp only [Try.t80, List.length_append, List.length_cons, List.length_nil, List.length_map, maxLen]; omega) | (simp [Try.t80, maxLen]; omega)) (by first | omega | (simp only [Try.t80, List.length_append, List.length_cons, List.length_nil, List.length_map, maxLen]; omega) | (simp [Try.t80, maxLen]; omega)) ?_
          | refine s_appendNil H rfl Try.underlying81 Try.underlying81 Try.type80 rfl rfl (by simp only [upd_get, ev, Nat.reduceEqDiff, ↓reduceIte] <;> rfl) (by first | assumption | exact SH.rsR H (by (repeat first | exact At.here | apply At.there); done) | exact SH.rsO H (by (repeat first | exact At.here | apply At.there); done) | exact Rs.toH (by first | assumption | exact SH.rsR H (by (repeat first | exact At.here | apply At.there); done) | exact SH.rsO H (by (repeat first | exact At.here | apply At.there); done)) (by omega) | exact Rs.toL (by first | assumption | exact SH.rsR H (by (repeat first | exact At.here | apply At.there); done) | exact SH.rsO H (by (repeat first | exact At.here | apply At.there); done)) (by omega) | exact Rs.toLH (by first | assumption | exact SH.rsR H (by (repeat first | exact At.here | apply At.there); done) | exact SH.rsO H (by (repeat first | exact At.here | apply At.there); done)) (by omega) (by omega) | exact (Rs.nil : Rs Non _ _ _)) (by rfl) (by rfl) (by first | omega | (simp only [Try.t80, List.length_append, List.length_cons, List.length_nil, List.length_map, maxLen]; omega) | (simp [Try.t80, maxLen]; omega)) ?_
        clear H
        intro v23_4 w23_4 g23_4 H hN23_4
        try dsimp only [replC, List.cons_append, List.nil_append, List.append_nil, agg, cellsL, Value.cells, List.toList_toArray, List.set_cons_zero, List.set_cons_succ, spliceL, List.take_succ_cons, List.take_zero, List.drop_succ_cons, List.drop_zero, List.length_cons, List.length_nil, Nat.reduceAdd, Row.cells, Gr.L, Rep.L, Mem.L, Cm.L, Rq.L, Ent.L, ActP.L] at H
        refine r_assign rfl ?_
        refine LW.nil ?_
        refine blockE_norm ?_
        refine thenE_norm (h25 _ _ ?_); clear h25; try clear K25
        refine CW.region ?_
        refine r_move rfl ?_
        refine r_add rfl rfl rfl (wr_i64 (by omega) (by omega)) ?_
        refine r_assign rfl ?_
        refine LW.nil ?_
        refine thenE_norm ⟨rfl, ?_⟩
        have hbt : bitB told j = true := by simpa [bitB] using hc6
        exact ⟨i - (j + 1), by omega, j + 1, _, _, by rw [hss, if_pos hbt, List.append_nil]; rfl, by omega, rfl, by rw [hrs, show memT (bitB told) j = ⟨j, 5, rep0⟩ by rw [memT, if_pos hbt]]; exact SH.sel H [0, 1, 2] (by decide) rfl⟩
      · try simp only [decide_eq_true_eq, decide_eq_false_iff_not, Bool.and_eq_true, Bool.or_eq_true, Bool.and_eq_false_iff, Bool.or_eq_false_iff, Bool.not_eq_true', Bool.not_eq_false', beq_iff_eq, bne_iff_ne, ne_eq, Decidable.not_not] at hc6
        refine CW.seq (fun K27 h27 => ?_)
        refine CW.region ?_
        refine r_move rfl ?_
        refine r_move rfl ?_
        refine r_buildQ rfl Try.underlying80 Try.zeroValue80 rfl (pl := [(0, 1), (1, 1), (2, 4)]) (by intro w; simp [go_sem]) (qs := [(0, [_]), (1, [_])]) (cs := [_, _, .int .i64 0, .int .i64 0, .int .i64 0, .slice none 0 0]) ⟨rfl, cells_one (by simp only [upd_get, ev, Nat.reduceEqDiff, ↓reduceIte] <;> rfl) (by first | rfl | exact Rs.oneC (by first | assumption | exact SH.rsR H (by (repeat first | exact At.here | apply At.there); done) | exact SH.rsO H (by (repeat first | exact At.here | apply At.there); done) | exact Rs.toH (by first | assumption | exact SH.rsR H (by (repeat first | exact At.here | apply At.there); done) | exact SH.rsO H (by (repeat first | exact At.here | apply At.there); done)) (by omega) | exact Rs.toL (by first | assumption | exact SH.rsR H (by (repeat first | exact At.here | apply At.there); done) | exact SH.rsO H (by (repeat first | exact At.here | apply At.there); done)) (by omega) | exact Rs.toLH (by first | assumption | exact SH.rsR H (by (repeat first | exact At.here | apply At.there); done) | exact SH.rsO H (by (repeat first | exact At.here | apply At.there); done)) (by omega) (by omega) | exact (Rs.nil : Rs Non _ _ _))), rfl, cells_one (by simp only [upd_get, ev, Nat.reduceEqDiff, ↓reduceIte] <;> rfl) (by first | rfl | exact Rs.oneC (by first | assumption | exact SH.rsR H (by (repeat first | exact At.here | apply At.there); done) | exact SH.rsO H (by (repeat first | exact At.here | apply At.there); done) | exact Rs.toH (by first | assumption | exact SH.rsR H (by (repeat first | exact At.here | apply At.there); done) | exact SH.rsO H (by (repeat first | exact At.here | apply At.there); done)) (by omega) | exact Rs.toL (by first | assumption | exact SH.rsR H (by (repeat first | exact At.here | apply At.there); done) | exact SH.rsO H (by (repeat first | exact At.here | apply At.there); done)) (by omega) | exact Rs.toLH (by first | assumption | exact SH.rsR H (by (repeat first | exact At.here | apply At.there); done) | exact SH.rsO H (by (repeat first | exact At.here | apply At.there); done)) (by omega) (by omega) | exact (Rs.nil : Rs Non _ _ _))), trivial⟩ rfl ?_
        refine r_buildSliceA (vs := [_]) rfl Try.underlying81 Try.sizeOf80 Try.zeroValue80 rfl rfl rfl rfl (by simp only [List.map_cons, List.map_nil, List.toList_toArray, numbered, Nat.reduceAdd, upd_get, ev, Nat.reduceEqDiff, ↓reduceIte] <;> rfl) rfl (by intro v hv; simp only [List.mem_cons, List.not_mem_nil, or_false] at hv; rcases hv with rfl <;> rfl) ?_
        intro b24_3 w24_3 hb24_3 hs24_3 hE24_3 hB24_3
        replace H := SH.call H (SH.fromB hE24_3 hb24_3 hs24_3 hB24_3)
        clear hb24_3 hs24_3 hE24_3 hB24_3
        try dsimp only [replC, List.cons_append, List.nil_append, List.append_nil, agg, cellsL, Value.cells, List.toList_toArray, List.set_cons_zero, List.set_cons_succ, spliceL, List.take_succ_cons, List.take_zero, List.drop_succ_cons, List.drop_zero, List.length_cons, List.length_nil, Nat.reduceAdd, Row.cells, Gr.L, Rep.L, Mem.L, Cm.L, Rq.L, Ent.L, ActP.L] at H
        replace H := SH.row (b := b24_3) (xs := ([⟨j, 4, rep0⟩] : List Mem)) (n := 1) (cap := 1) H (by (repeat first | exact At.here | apply At.there); done) (by simp only [flat, List.flatMap_cons, List.flatMap_nil, cellsL, agg, List.append_nil, List.cons_append, List.nil_append, List.toList_toArray, Row.cells, Gr.L, Rep.L, Mem.L, Cm.L, Rq.L, Ent.L, ActP.L] <;> rfl) (by intro x hx; first | rfl | (simp at hx; done) | (simp only [List.mem_cons, List.not_mem_nil, or_false] at hx; rcases hx with rfl <;> first | rfl | exact (by first | rfl | exact Rs.oneC (by first | assumption | exact SH.rsR H (by (repeat first | exact At.here | apply At.there); done) | exact SH.rsO H (by (repeat first | exact At.here | apply At.there); done) | exact Rs.toH (by first | assumption | exact SH.rsR H (by (repeat first | exact At.here | apply At.there); done) | exact SH.rsO H (by (repeat first | exact At.here | apply At.there); done)) (by omega) | exact Rs.toL (by first | assumption | exact SH.rsR H (by (repeat first | exact At.here | apply At.there); done) | exact SH.rsO H (by (repeat first | exact At.here | apply At.there); done)) (by omega) | exact Rs.toLH (by first | assumption | exact SH.rsR H (by (repeat first | exact At.here | apply At.there); done) | exact SH.rsO H (by (repeat first | exact At.here | apply At.there); done)) (by omega) (by omega) | exact (Rs.nil : Rs Non _ _ _)) | (simp only [List.all_cons, List.all_nil, Bool.and_true, Bool.and_eq_true, Row.cells, Gr.L, Rep.L, Mem.L, Cm.L, Rq.L, Ent.L, ActP.L]; (repeat' constructor) <;> first | rfl | exact Rs.oneC (by first | assumption | exact SH.rsR H (by (repeat first | exact At.here | apply At.there); done) | exact SH.rsO H (by (repeat first | exact At.here | apply At.there); done) | exact Rs.toH (by first | assumption | exact SH.rsR H (by (repeat first | exact At.here | apply At.there); done) | exact SH.rsO H (by (repeat first | exact At.here | apply At.there); done)) (by omega) | exact Rs.toL (by first | assumption | exact SH.rsR H (by (repeat first | exact At.here | apply At.there); done) | exact SH.rsO H (by (repeat first | exact At.here | apply At.there); done)) (by omega) | exact Rs.toLH (by first | assumption | exact SH.rsR H (by (repeat first | exact At.here | apply At.there); done) | exact SH.rsO H (by (repeat first | exact At.here | apply At.there); done)) (by omega) (by omega) | exact (Rs.nil : Rs Non _ _ _)))))) (by rfl) rfl (by decide)
        try dsimp only [replC, List.cons_append, List.nil_append, List.append_nil, agg, cellsL, Value.cells, List.toList_toArray, List.set_cons_zero, List.set_cons_succ, spliceL, List.take_succ_cons, List.take_zero, List.drop_succ_cons, List.drop_zero, List.length_cons, List.length_nil, Nat.reduceAdd, Row.cells, Gr.L, Rep.L, Mem.L, Cm.L, Rq.L, Ent.L, ActP.L] at H
        first
          | refine s_append H rfl Try.underlying81 Try.underlying81 Try.type80 rfl (by simp only [upd_get, ev, Nat.reduceEqDiff, ↓reduceIte] <;> rfl) (by simp only [upd_get, ev, Nat.reduceEqDiff, ↓reduceIte] <;> rfl) (by (repeat first | exact At.here | apply At.there); done) (by first | assumption | exact SH.rsR H (by (repeat first | exact At.here | apply At.there); done) | exact SH.rsO H (by (repeat first | exact At.here | apply At.there); done) | exact Rs.toH (by first | assumption | exact SH.rsR H (by (repeat first | exact At.here | apply At.there); done) | exact SH.rsO H (by (repeat first | exact At.here | apply At.there); done)) (by omega) | exact Rs.toL (by first | assumption | exact SH.rsR H (by (repeat first | exact At.here | apply At.there); done) | exact SH.rsO H (by (repeat first | exact At.here | apply At.there); done)) (by omega) | exact Rs.toLH (by first | assumption | exact SH.rsR H (by (repeat first | exact At.here | apply At.there); done) | exact SH.rsO H (by (repeat first | exact At.here | apply At.there); done)) (by omega) (by omega) | exact (Rs.nil : Rs Non _ _ _)) (by rfl) (by rfl) (by first | omega | (simp only [Try.t80, List.length_append, List.length_cons, List.length_nil, List.length_map, maxLen]; omega) | (simp [Try.t80, maxLen]; omega)) (by first | omega | (simp only [Try.t80, List.length_append, List.length_cons, List.length_nil, List.length_map, maxLen]; omega) | (simp [Try.t80, maxLen]; omega)) ?_
          | refine s_appendNil H rfl Try.underlying81 Try.underlying81 Try.type80 rfl rfl (by simp only [upd_get, ev, Nat.reduceEqDiff, ↓reduceIte] <;> rfl) (by first | assumption | exact SH.rsR H (by (repeat first | exact At.here | apply At.there); done) | exact SH.rsO H (by (repeat first | exact At.here | apply At.there); done) | exact Rs.toH (by first | assumption | exact SH.rsR H (by (repeat first | exact At.here | apply At.there); done) | exact SH.rsO H (by (repeat first | exact At.here | apply At.there); done)) (by omega) | exact Rs.toL (by first | assumption | exact SH.rsR H (by (repeat first | exact At.here | apply At.there); done) | exact SH.rsO H (by (repeat first | exact At.here | apply At.there); done)) (by omega) | exact Rs.toLH (by first | assumption | exact SH.rsR H (by (repeat first | exact At.here | apply At.there); done) | exact SH.rsO H (by (repeat first | exact At.here | apply At.there); done)) (by omega) (by omega) | exact (Rs.nil : Rs Non _ _ _)) (by rfl) (by rfl) (by first | omega | (simp only [Try.t80, List.length_append, List.length_cons, List.length_nil, List.length_map, maxLen]; omega) | (simp [Try.t80, maxLen]; omega)) ?_
        clear H
        intro v24_4 w24_4 g24_4 H hN24_4
        try dsimp only [replC, List.cons_append, List.nil_append, List.append_nil, agg, cellsL, Value.cells, List.toList_toArray, List.set_cons_zero, List.set_cons_succ, spliceL, List.take_succ_cons, List.take_zero, List.drop_succ_cons, List.drop_zero, List.length_cons, List.length_nil, Nat.reduceAdd, Row.cells, Gr.L, Rep.L, Mem.L, Cm.L, Rq.L, Ent.L, ActP.L] at H
        refine r_assign rfl ?_
        refine LW.nil ?_
        refine thenE_norm (h27 _ _ ?_); clear h27; try clear K27
        refine CW.region ?_
        refine r_move rfl ?_
        refine r_add rfl rfl rfl (wr_i64 (by omega) (by omega)) ?_
        refine r_assign rfl ?_
        refine LW.nil ?_
        refine blockE_norm ?_
        refine thenE_norm (h25 _ _ ?_); clear h25; try clear K25
        refine CW.region ?_
        refine r_move rfl ?_
        refine r_add rfl rfl rfl (wr_i64 (by omega) (by omega)) ?_
        refine r_assign rfl ?_
        refine LW.nil ?_
        refine thenE_norm ⟨rfl, ?_⟩
        have hbt : ¬ bitB told j = true := by simpa [bitB] using hc6
        exact ⟨i - (j + 1), by omega, j + 1, _, _, by rw [hss, if_neg hbt, List.length_append]; rfl, by omega, rfl, by rw [hrs, show memT (bitB told) j = ⟨j, 4, rep0⟩ by rw [memT, if_neg hbt]]; exact SH.sel H [0, 1, 2] (by decide) rfl⟩
    · try simp only [decide_eq_true_eq, decide_eq_false_iff_not, Bool.and_eq_true, Bool.or_eq_true, Bool.and_eq_false_iff, Bool.or_eq_false_iff, Bool.not_eq_true', Bool.not_eq_false', beq_iff_eq, bne_iff_ne, ne_eq, Decidable.not_not] at hc5
      refine CW.exit (thenE_exit (thenE_exit (blockE_hit ?_)))
      refine thenE_norm (h21 _ _ ?_); clear h21; try clear K21
      refine CW.seq (fun K28 h28 => ?_)
      obtain rfl : j = i := by omega
      have hsl := stay_len (bitB told) j
      refine CW.region ?_
      refine r_move rfl ?_
      refine r_move rfl ?_
      refine r_move rfl ?_
      refine r_convI rfl Try.underlying5 Try.underlying3 rfl (wr_i64 (by omega) (by omega)) ?_
      refine r_call rfl Try.call54 (by simp only [List.map_cons, List.map_nil, List.map_toArray, List.toList_toArray, upd_get, ev, Nat.reduceEqDiff, ↓reduceIte] <;> rfl) (Trim_c _ _ (SH.prop H (by (repeat first | exact At.here | apply At.there); done)) (by first | assumption | exact SH.rsR H (by (repeat first | exact At.here | apply At.there); done) | exact SH.rsO H (by (repeat first | exact At.here | apply At.there); done) | exact Rs.toH (by first | assumption | exact SH.rsR H (by (repeat first | exact At.here | apply At.there); done) | exact SH.rsO H (by (repeat first | exact At.here | apply At.there); done)) (by omega) | exact Rs.toL (by first | assumption | exact SH.rsR H (by (repeat first | exact At.here | apply At.there); done) | exact SH.rsO H (by (repeat first | exact At.here | apply At.there); done)) (by omega) | exact Rs.toLH (by first | assumption | exact SH.rsR H (by (repeat first | exact At.here | apply At.there); done) | exact SH.rsO H (by (repeat first | exact At.here | apply At.there); done)) (by omega) (by omega) | exact (Rs.nil : Rs Non _ _ _)) (by first | exact SH.apartPO H (by (repeat first | exact At.here | apply At.there); done) (by (repeat first | exact At.here | apply At.there); done) (by decide) | exact SH.apartPR H (by (repeat first | exact At.here | apply At.there); done) (by (repeat first | exact At.here | apply At.there); done) (by decide) | exact fun _ h => h.elim) (by rw [R5_len]; omega) (memT_up _ _)) ?_
      rintro _ w26_4 ⟨FN26_4, rfl, K⟩
      refine ⟨_, rfl, ?_⟩
      replace H := SH.updP H (by (repeat first | exact At.here | apply At.there); done) K
      clear K
      try dsimp only [replC, List.cons_append, List.nil_append, List.append_nil, agg, cellsL, Value.cells, List.toList_toArray, List.set_cons_zero, List.set_cons_succ, spliceL, List.take_succ_cons, List.take_zero, List.drop_succ_cons, List.drop_zero, List.length_cons, List.length_nil, Nat.reduceAdd, Row.cells, Gr.L, Rep.L, Mem.L, Cm.L, Rq.L, Ent.L, ActP.L] at H
      rw [trim_E2] at H
      refine LW.nil ?_
      refine thenE_norm ?_
      refine cut (K := K28) [1, 2, 3, 11, 17, 19] (fun σ => ?_)
      simp only [setL, keepE, upd_get, ev, Nat.reduceEqDiff, ↓reduceIte]
      refine h28 _ _ ?_; clear h28; try clear K28
      refine CW.seq (fun K29 h29 => ?_)
      refine CW.region ?_
      refine r_move rfl ?_
      refine r_call rfl Try.call23 (by simp only [List.map_cons, List.map_nil, List.map_toArray, List.toList_toArray, upd_get, ev, Nat.reduceEqDiff, ↓reduceIte] <;> rfl) (List_c _ (SH.prop H (by (repeat first | exact At.here | apply At.there); done))) ?_
      rintro _ w27_1 ⟨v27_1, g27_1, rfl, K⟩
      refine ⟨_, rfl, ?_⟩
      replace H := SH.call H K
      clear K
      try dsimp only [replC, List.cons_append, List.nil_append, List.append_nil, agg, cellsL, Value.cells, List.toList_toArray, List.set_cons_zero, List.set_cons_succ, spliceL, List.take_succ_cons, List.take_zero, List.drop_succ_cons, List.drop_zero, List.length_cons, List.length_nil, Nat.reduceAdd, Row.cells, Gr.L, Rep.L, Mem.L, Cm.L, Rq.L, Ent.L, ActP.L] at H
      rw [E3_req] at H
      refine r_assign rfl ?_
      refine LW.nil ?_
      refine thenE_norm (h29 _ _ ?_); clear h29; try clear K29
      refine CW.seq (fun K30 h30 => ?_)
      refine CW.seq (fun K31 h31 => ?_)
      refine CW.region ?_
      refine r_move rfl ?_
      first
        | refine r_lenV rfl Try.underlying30 (by simp only [upd_get, ev, Nat.reduceEqDiff, ↓reduceIte] <;> rfl) (by first | assumption | exact SH.rsR H (by (repeat first | exact At.here | apply At.there); done) | exact SH.rsO H (by (repeat first | exact At.here | apply At.there); done) | exact Rs.toH (by first | assumption | exact SH.rsR H (by (repeat first | exact At.here | apply At.there); done) | exact SH.rsO H (by (repeat first | exact At.here | apply At.there); done)) (by omega) | exact Rs.toL (by first | assumption | exact SH.rsR H (by (repeat first | exact At.here | apply At.there); done) | exact SH.rsO H (by (repeat first | exact At.here | apply At.there); done)) (by omega) | exact Rs.toLH (by first | assumption | exact SH.rsR H (by (repeat first | exact At.here | apply At.there); done) | exact SH.rsO H (by (repeat first | exact At.here | apply At.there); done)) (by omega) (by omega) | exact (Rs.nil : Rs Non _ _ _)) ?_
        | refine r_len rfl Try.underlying30 rfl ?_
      refine r_move rfl ?_
      refine r_neq rfl rfl rfl ?_
      refine r_move rfl ?_
      refine LW.known (t := 113) (c := false) rfl (by simp) (fun hg28_5 => ?_)
      refine LW.want rfl rfl hg28_5 ?_
      refine r_move rfl ?_
      refine LW.want rfl rfl hg28_5 ?_
      refine r_call rfl Try.call24 (by simp only [List.map_cons, List.map_nil, List.map_toArray, List.toList_toArray, upd_get, ev, Nat.reduceEqDiff, ↓reduceIte] <;> rfl) (PLen_c _ (SH.prop H (by (repeat first | exact At.here | apply At.there); done))) ?_
      rintro _ _ ⟨rfl, rfl⟩
      refine ⟨_, rfl, ?_⟩
      refine LW.want rfl rfl hg28_5 ?_
      refine r_move rfl ?_
      refine LW.want rfl rfl hg28_5 ?_
      refine r_neq rfl rfl rfl ?_
      refine r_pickF rfl rfl hg28_5 ?_
      refine LW.nil ?_
      refine thenE_norm ?_
      refine cut (K := K31) [1, 2, 3, 11, 17, 21, 118] (fun σ => ?_)
      simp only [setL, keepE, upd_get, ev, Nat.reduceEqDiff, ↓reduceIte]
      refine h31 _ _ ?_; clear h31; try clear K31
      refine CW.condF rfl (by simp) ?_
      refine CW.skip ?_
      refine thenE_norm (h30 _ _ ?_); clear h30; try clear K30
      refine CW.seq (fun K32 h32 => ?_)
      refine CW.region ?_
      refine r_assign rfl ?_
      refine LW.nil ?_
      refine thenE_norm (h32 _ _ ?_); clear h32; try clear K32
      refine CW.seq (fun K33 h33 => ?_)
      refine CW.seq (fun K34 h34 => ?_)
      refine CW.region ?_
      refine r_assign rfl ?_
      refine LW.nil ?_
      refine thenE_norm (h34 _ _ ?_); clear h34; try clear K34
      refine CW.block ?_
      refine CW.loopR [1, 2, 3, 11, 17, 21] [22, 23] (fun m vs w' => ∃ q : Nat, vs = [.int .i64 ((((stayL (bitB told) j).take q).filter (wantB j (1 + slot) done)).length : Nat), .int .i64 q] ∧ q ≤ (stayL (bitB told) j).length ∧ m = (stayL (bitB told) j).length - q ∧ SH Non Any w w' [.P FN26_4 (PoolA p ((stayL (bitB told) j).map (E3 (1 + slot) (view + 1) done)) FN26_4), .O 29 v15_1 (R5 (fun j => rO j 5) (min j 3)) g15_1, .O 29 v27_1 ((stayL (bitB told) j).map fun (j : Nat) => rO j 5) g27_1]) ((stayL (bitB told) j).length) ?_ ?_
      · exact ⟨0, rfl, by omega, by omega, (SH.sel H [0, 1, 3] (by decide) (by rfl))⟩
      try clear H
      rintro n3 vs3 wL3 σ ⟨q, rfl, hq, rfl, H⟩
      simp only [setL, keepE, upd_get, ev, Nat.reduceEqDiff, ↓reduceIte]
      refine CW.seq (fun K35 h35 => ?_)
      refine CW.seq (fun K36 h36 => ?_)
      have hml : ((stayL (bitB told) j).map fun (j : Nat) => rO j 5).length = (stayL (bitB told) j).length := List.length_map _
      refine CW.region ?_
      refine r_move rfl ?_
      refine r_move rfl ?_
      first
        | refine r_lenV rfl Try.underlying30 (by simp only [upd_get, ev, Nat.reduceEqDiff, ↓reduceIte] <;> rfl) (by first | assumption | exact SH.rsR H (by (repeat first | exact At.here | apply At.there); done) | exact SH.rsO H (by (repeat first | exact At.here | apply At.there); done) | exact Rs.toH (by first | assumption | exact SH.rsR H (by (repeat first | exact At.here | apply At.there); done) | exact SH.rsO H (by (repeat first | exact At.here | apply At.there); done)) (by omega) | exact Rs.toL (by first | assumption | exact SH.rsR H (by (repeat first | exact At.here | apply At.there); done) | exact SH.rsO H (by (repeat first | exact At.here | apply At.there); done)) (by omega) | exact Rs.toLH (by first | assumption | exact SH.rsR H (by (repeat first | exact At.here | apply At.there); done) | exact SH.rsO H (by (repeat first | exact At.here | apply At.there); done)) (by omega) (by omega) | exact (Rs.nil : Rs Non _ _ _)) ?_
        | refine r_len rfl Try.underlying30 rfl ?_
      refine r_lss rfl rfl rfl ?_
      refine LW.nil ?_
      refine thenE_norm (h36 _ _ ?_); clear h36; try clear K36
      refine CW.cond rfl (fun hc8 => ?_) (fun hc8 => ?_)
      · try simp only [decide_eq_true_eq, decide_eq_false_iff_not, Bool.and_eq_true, Bool.or_eq_true, Bool.and_eq_false_iff, Bool.or_eq_false_iff, Bool.not_eq_true', Bool.not_eq_false', beq_iff_eq, bne_iff_ne, ne_eq, Decidable.not_not] at hc8
        refine CW.skip ?_
        refine thenE_norm (h35 _ _ ?_); clear h35; try clear K35
        refine CW.seq (fun K37 h37 => ?_)
        refine CW.block ?_
        refine CW.seq (fun K38 h38 => ?_)
        refine CW.seq (fun K39 h39 => ?_)
        obtain ⟨y, hy⟩ := get_of_lt (show q < (stayL (bitB told) j).length by omega)
        have hx : ((stayL (bitB told) j).map fun (j : Nat) => rO j 5)[q]? = some (rO y 5) := by rw [List.getElem?_map, hy]; rfl
        obtain ⟨hyj, hyb⟩ := stay_lt (List.mem_of_getElem? hy)
        obtain ⟨hb0, hb1⟩ := bit_rng ht.1 ht.2 y
        have hws := want_snoc (k := j) (s := 1 + slot) (d := done) hy
        have hfl := List.length_filter_le (wantB j (1 + slot) done) ((stayL (bitB told) j).take q)
        have hrl := R5_len (fun j => rO j 5) (min j 3)
        have hy64 : IntKind.u64.wrap (y : Int) = (y : Int) := wr_u64 (by omega) (by omega)
        have htk : ((stayL (bitB told) j).take q).length ≤ q := by rw [List.length_take]; omega
        refine CW.region ?_
        refine r_move rfl ?_
        refine r_move rfl ?_
        refine r_move rfl ?_
        refine r_indexAddrV rfl Try.underlying30 (by simp only [upd_get, ev, Nat.reduceEqDiff, ↓reduceIte] <;> rfl) rfl (by first | assumption | exact SH.rsR H (by (repeat first | exact At.here | apply At.there); done) | exact SH.rsO H (by (repeat first | exact At.here | apply At.there); done) | exact Rs.toH (by first | assumption | exact SH.rsR H (by (repeat first | exact At.here | apply At.there); done) | exact SH.rsO H (by (repeat first | exact At.here | apply At.there); done)) (by omega) | exact Rs.toL (by first | assumption | exact SH.rsR H (by (repeat first | exact At.here | apply At.there); done) | exact SH.rsO H (by (repeat first | exact At.here | apply At.there); done)) (by omega) | exact Rs.toLH (by first | assumption | exact SH.rsR H (by (repeat first | exact At.here | apply At.there); done) | exact SH.rsO H (by (repeat first | exact At.here | apply At.there); done)) (by omega) (by omega) | exact (Rs.nil : Rs Non _ _ _)) (by exact Try.sizeOf29) (by omega) (by omega) ?_
        refine r_fieldAddrO rfl Try.underlying29 rfl Try.sizeOf3 (by decide) (show _ + 0 = _ from rfl) rfl ?_
        refine r_load rfl Try.isAgg3 rfl (by first | exact SH.cellB H (by (repeat first | exact At.here | apply At.there); done) (by rfl) | exact SH.cellI H (by (repeat first | exact At.here | apply At.there); done) (by rfl) | exact Rs.cell (by first | assumption | exact SH.rsR H (by (repeat first | exact At.here | apply At.there); done) | exact SH.rsO H (by (repeat first | exact At.here | apply At.there); done) | exact Rs.toH (by first | assumption | exact SH.rsR H (by (repeat first | exact At.here | apply At.there); done) | exact SH.rsO H (by (repeat first | exact At.here | apply At.there); done)) (by omega) | exact Rs.toL (by first | assumption | exact SH.rsR H (by (repeat first | exact At.here | apply At.there); done) | exact SH.rsO H (by (repeat first | exact At.here | apply At.there); done)) (by omega) | exact Rs.toLH (by first | assumption | exact SH.rsR H (by (repeat first | exact At.here | apply At.there); done) | exact SH.rsO H (by (repeat first | exact At.here | apply At.there); done)) (by omega) (by omega) | exact (Rs.nil : Rs Non _ _ _)) (by assumption) (by rfl) | exact Rs.cell0 (by first | assumption | exact SH.rsR H (by (repeat first | exact At.here | apply At.there); done) | exact SH.rsO H (by (repeat first | exact At.here | apply At.there); done) | exact Rs.toH (by first | assumption | exact SH.rsR H (by (repeat first | exact At.here | apply At.there); done) | exact SH.rsO H (by (repeat first | exact At.here | apply At.there); done)) (by omega) | exact Rs.toL (by first | assumption | exact SH.rsR H (by (repeat first | exact At.here | apply At.there); done) | exact SH.rsO H (by (repeat first | exact At.here | apply At.there); done)) (by omega) | exact Rs.toLH (by first | assumption | exact SH.rsR H (by (repeat first | exact At.here | apply At.there); done) | exact SH.rsO H (by (repeat first | exact At.here | apply At.there); done)) (by omega) (by omega) | exact (Rs.nil : Rs Non _ _ _)) (by assumption) (by rfl) | assumption) ?_
        refine r_convI rfl Try.underlying3 Try.underlying84 rfl hy64 ?_
        refine r_shr rfl rfl rfl (show (0 : Int) ≤ (y : Int) from by omega) (show ((y : Int)).toNat ≤ 8 from by omega) ?_
        refine r_and rfl rfl rfl (show 0 ≤ told / 2 ^ ((y : Int)).toNat from by simpa using hb0) (show told / 2 ^ ((y : Int)).toNat < 256 from by simpa using hb1) ?_
        refine r_eql rfl rfl rfl ?_
        refine LW.nil ?_
        refine thenE_norm ?_
        refine cut (K := K39) [1, 2, 3, 11, 17, 21, 22, 23, 134] (fun σ => ?_)
        simp only [setL, keepE, upd_get, ev, Nat.reduceEqDiff, ↓reduceIte]
        refine h39 _ _ ?_; clear h39; try clear K39
        refine CW.condF rfl (show decide (told / 2 ^ ((y : Int)).toNat % 2 = 1) = false from by simpa [bitB] using hyb) ?_
        refine CW.skip ?_
        refine thenE_norm (h38 _ _ ?_); clear h38; try clear K38
        refine CW.seq (fun K40 h40 => ?_)
        refine CW.region ?_
        refine r_move rfl ?_
        refine r_move rfl ?_
        refine r_indexAddrV rfl Try.underlying30 (by simp only [upd_get, ev, Nat.reduceEqDiff, ↓reduceIte] <;> rfl) rfl (by first | assumption | exact SH.rsR H (by (repeat first | exact At.here | apply At.there); done) | exact SH.rsO H (by (repeat first | exact At.here | apply At.there); done) | exact Rs.toH (by first | assumption | exact SH.rsR H (by (repeat first | exact At.here | apply At.there); done) | exact SH.rsO H (by (repeat first | exact At.here | apply At.there); done)) (by omega) | exact Rs.toL (by first | assumption | exact SH.rsR H (by (repeat first | exact At.here | apply At.there); done) | exact SH.rsO H (by (repeat first | exact At.here | apply At.there); done)) (by omega) | exact Rs.toLH (by first | assumption | exact SH.rsR H (by (repeat first | exact At.here | apply At.there); done) | exact SH.rsO H (by (repeat first | exact At.here | apply At.there); done)) (by omega) (by omega) | exact (Rs.nil : Rs Non _ _ _)) (by exact Try.sizeOf29) (by omega) (by omega) ?_
        refine r_fieldAddrO rfl Try.underlying29 rfl Try.sizeOf3 (by decide) (show _ + 0 = _ from rfl) rfl ?_
        refine r_load rfl Try.isAgg3 rfl (by first | exact SH.cellB H (by (repeat first | exact At.here | apply At.there); done) (by rfl) | exact SH.cellI H (by (repeat first | exact At.here | apply At.there); done) (by rfl) | exact Rs.cell (by first | assumption | exact SH.rsR H (by (repeat first | exact At.here | apply At.there); done) | exact SH.rsO H (by (repeat first | exact At.here | apply At.there); done) | exact Rs.toH (by first | assumption | exact SH.rsR H (by (repeat first | exact At.here | apply At.there); done) | exact SH.rsO H (by (repeat first | exact At.here | apply At.there); done)) (by omega) | exact Rs.toL (by first | assumption | exact SH.rsR H (by (repeat first | exact At.here | apply At.there); done) | exact SH.rsO H (by (repeat first | exact At.here | apply At.there); done)) (by omega) | exact Rs.toLH (by first | assumption | exact SH.rsR H (by (repeat first | exact At.here | apply At.there); done) | exact SH.rsO H (by (repeat first | exact At.here | apply At.there); done)) (by omega) (by omega) | exact (Rs.nil : Rs Non _ _ _)) (by assumption) (by rfl) | exact Rs.cell0 (by first | assumption | exact SH.rsR H (by (repeat first | exact At.here | apply At.there); done) | exact SH.rsO H (by (repeat first | exact At.here | apply At.there); done) | exact Rs.toH (by first | assumption | exact SH.rsR H (by (repeat first | exact At.here | apply At.there); done) | exact SH.rsO H (by (repeat first | exact At.here | apply At.there); done)) (by omega) | exact Rs.toL (by first | assumption | exact SH.rsR H (by (repeat first | exact At.here | apply At.there); done) | exact SH.rsO H (by (repeat first | exact At.here | apply At.there); done)) (by omega) | exact Rs.toLH (by first | assumption | exact SH.rsR H (by (repeat first | exact At.here | apply At.there); done) | exact SH.rsO H (by (repeat first | exact At.here | apply At.there); done)) (by omega) (by omega) | exact (Rs.nil : Rs Non _ _ _)) (by assumption) (by rfl) | assumption) ?_
        refine r_move rfl ?_
        first
          | refine r_lenV rfl Try.underlying30 (by simp only [upd_get, ev, Nat.reduceEqDiff, ↓reduceIte] <;> rfl) (by first | assumption | exact SH.rsR H (by (repeat first | exact At.here | apply At.there); done) | exact SH.rsO H (by (repeat first | exact At.here | apply At.there); done) | exact Rs.toH (by first | assumption | exact SH.rsR H (by (repeat first | exact At.here | apply At.there); done) | exact SH.rsO H (by (repeat first | exact At.here | apply At.there); done)) (by omega) | exact Rs.toL (by first | assumption | exact SH.rsR H (by (repeat first | exact At.here | apply At.there); done) | exact SH.rsO H (by (repeat first | exact At.here | apply At.there); done)) (by omega) | exact Rs.toLH (by first | assumption | exact SH.rsR H (by (repeat first | exact At.here | apply At.there); done) | exact SH.rsO H (by (repeat first | exact At.here | apply At.there); done)) (by omega) (by omega) | exact (Rs.nil : Rs Non _ _ _)) ?_
          | refine r_len rfl Try.underlying30 rfl ?_
        refine r_geq rfl rfl rfl ?_
        refine r_move rfl ?_
        refine' LW.grpOr (n := 7) (ts := [1, 2, 3, 11, 17, 21, 22, 23]) (d := 150) (tj := 143) rfl (fun hg36_9 => ?_) (fun hg36_9 => ?_) (fun σ => ?_)
        rotate_left
        · simp only [List.take_succ_cons, List.take_zero]
          have hg36_9P := hg36_9
          try simp only [decide_eq_true_eq, decide_eq_false_iff_not, Bool.and_eq_true, Bool.or_eq_true, Bool.and_eq_false_iff, Bool.or_eq_false_iff, Bool.not_eq_true', Bool.not_eq_false', beq_iff_eq, bne_iff_ne] at hg36_9P
          refine LW.want rfl rfl hg36_9 ?_
          refine r_move rfl ?_
          refine LW.want rfl rfl hg36_9 ?_
          refine r_convI rfl Try.underlying5 Try.underlying3 rfl (wr_i64 (by omega) (by omega)) ?_
          refine LW.want rfl rfl hg36_9 ?_
          refine r_add rfl rfl rfl (wr_i64 (by omega) (by omega)) ?_
          refine LW.want rfl rfl hg36_9 ?_
          refine r_move rfl ?_
          refine LW.want rfl rfl hg36_9 ?_
          refine r_convI rfl Try.underlying5 Try.underlying3 rfl (wr_i64 (by omega) (by omega)) ?_
          refine LW.want rfl rfl hg36_9 ?_
          refine r_leq rfl rfl rfl ?_
          refine r_pickF rfl rfl hg36_9 ?_
          refine LW.nil (thenE_norm ⟨rfl, rfl, rfl⟩)
        · simp only [List.take_succ_cons, List.take_zero]
          refine LW.skip rfl (fun _ e => by cases e; decide) rfl hg36_9 ?_
          refine LW.skip rfl (fun _ e => by cases e; decide) rfl hg36_9 ?_
          refine LW.skip rfl (fun _ e => by cases e; decide) rfl hg36_9 ?_
          refine LW.skip rfl (fun _ e => by cases e; decide) rfl hg36_9 ?_
          refine LW.skip rfl (fun _ e => by cases e; decide) rfl hg36_9 ?_
          refine LW.skip rfl (fun _ e => by cases e; decide) rfl hg36_9 ?_
          refine r_pickT rfl rfl hg36_9 ?_
          refine LW.nil (thenE_norm ⟨rfl, rfl, rfl⟩)
        simp only [setL, keepE, upd_get, ev, Nat.reduceEqDiff, ↓reduceIte]; simp only [List.drop_succ_cons, List.drop_zero]
        refine LW.nil ?_
        refine thenE_norm (h40 _ _ ?_); clear h40; try clear K40
        refine CW.cond rfl (fun hc10 => ?_) (fun hc10 => ?_)
        · try simp only [decide_eq_true_eq, decide_eq_false_iff_not, Bool.and_eq_true, Bool.or_eq_true, Bool.and_eq_false_iff, Bool.or_eq_false_iff, Bool.not_eq_true', Bool.not_eq_false', beq_iff_eq, bne_iff_ne, ne_eq, Decidable.not_not] at hc10
          refine CW.region ?_
          refine r_move rfl ?_
          refine r_add rfl rfl rfl (wr_i64 (by omega) (by omega)) ?_
          refine r_assign rfl ?_
          refine LW.nil ?_
          refine blockE_norm ?_
          refine thenE_norm (h37 _ _ ?_); clear h37; try clear K37
          refine CW.region ?_
          refine r_move rfl ?_
          refine r_add rfl rfl rfl (wr_i64 (by omega) (by omega)) ?_
          refine r_assign rfl ?_
          refine LW.nil ?_
          refine thenE_norm ⟨rfl, ?_⟩
          have hyc : (rO (y : Int) 5).client = y := rfl
          have hw : wantB j (1 + slot) done y = true := by rw [wantB, Bool.or_eq_true, decide_eq_true_eq, decide_eq_true_eq]; omega
          exact ⟨_, by omega, q + 1, by rw [hws, if_pos hw]; rfl, by omega, rfl, H⟩
        · try simp only [decide_eq_true_eq, decide_eq_false_iff_not, Bool.and_eq_true, Bool.or_eq_true, Bool.and_eq_false_iff, Bool.or_eq_false_iff, Bool.not_eq_true', Bool.not_eq_false', beq_iff_eq, bne_iff_ne, ne_eq, Decidable.not_not] at hc10
          refine CW.skip ?_
          refine blockE_norm ?_
          refine thenE_norm (h37 _ _ ?_); clear h37; try clear K37
          refine CW.region ?_
          refine r_move rfl ?_
          refine r_add rfl rfl rfl (wr_i64 (by omega) (by omega)) ?_
          refine r_assign rfl ?_
          refine LW.nil ?_
          refine thenE_norm ⟨rfl, ?_⟩
          have hyc : (rO (y : Int) 5).client = y := rfl
          have hw : ¬ wantB j (1 + slot) done y = true := by rw [wantB, Bool.or_eq_true, decide_eq_true_eq, decide_eq_true_eq]; omega
          exact ⟨_, by omega, q + 1, by rw [hws, if_neg hw]; rfl, by omega, rfl, H⟩
      · try simp only [decide_eq_true_eq, decide_eq_false_iff_not, Bool.and_eq_true, Bool.or_eq_true, Bool.and_eq_false_iff, Bool.or_eq_false_iff, Bool.not_eq_true', Bool.not_eq_false', beq_iff_eq, bne_iff_ne, ne_eq, Decidable.not_not] at hc8
        refine CW.exit (thenE_exit (thenE_exit (blockE_hit ?_)))
        refine thenE_norm (h33 _ _ ?_); clear h33; try clear K33
        refine CW.seq (fun K41 h41 => ?_)
        obtain rfl : q = (stayL (bitB told) j).length := by omega
        rw [List.take_length]
        have hrd := E3_ready (bitB told) j (1 + slot) (view + 1) done
        refine CW.region ?_
        refine r_assign rfl ?_
        refine LW.nil ?_
        refine thenE_norm (h41 _ _ ?_); clear h41; try clear K41
        refine CW.seq (fun K42 h42 => ?_)
        refine CW.region ?_
        refine r_move rfl ?_
        refine r_call rfl Try.call27 (by simp only [List.map_cons, List.map_nil, List.map_toArray, List.toList_toArray, upd_get, ev, Nat.reduceEqDiff, ↓reduceIte] <;> rfl) (MarkZ_c _ _) ?_
        rintro _ w39_1 ⟨rfl, X⟩
        refine ⟨_, rfl, ?_⟩
        replace H := SH.same H X
        clear X
        refine LW.nil ?_
        refine thenE_norm (h42 _ _ ?_); clear h42; try clear K42
        refine CW.seq (fun K43 h43 => ?_)
        refine CW.region ?_
        refine r_move rfl ?_
        refine r_call rfl Try.call28 (by simp only [List.map_cons, List.map_nil, List.map_toArray, List.toList_toArray, upd_get, ev, Nat.reduceEqDiff, ↓reduceIte] <;> rfl) (ClearZ_c _) ?_
        rintro _ w40_1 ⟨rfl, X⟩
        refine ⟨_, rfl, ?_⟩
        replace H := SH.same H X
        clear X
        refine LW.nil ?_
        refine thenE_norm ?_
        refine cut (K := K43) [11, 22, 24] (fun σ => ?_)
        simp only [setL, keepE, upd_get, ev, Nat.reduceEqDiff, ↓reduceIte]
        refine h43 _ _ ?_; clear h43; try clear K43
        refine CW.seq (fun K44 h44 => ?_)
        refine CW.region ?_
        refine r_move rfl ?_
        refine r_call rfl Try.call54 (by simp only [List.map_cons, List.map_nil, List.map_toArray, List.toList_toArray, upd_get, ev, Nat.reduceEqDiff, ↓reduceIte] <;> rfl) (TrimZ_c _ _ rfl) ?_
        rintro _ w41_1 ⟨rfl, X⟩
        refine ⟨_, rfl, ?_⟩
        replace H := SH.same H X
        clear X
        refine LW.nil ?_
        refine thenE_norm (h44 _ _ ?_); clear h44; try clear K44
        refine CW.seq (fun K45 h45 => ?_)
        refine CW.region ?_
        refine r_move rfl ?_
        refine r_call rfl Try.call20 (by simp only [List.map_cons, List.map_nil, List.map_toArray, List.toList_toArray, upd_get, ev, Nat.reduceEqDiff, ↓reduceIte] <;> rfl) (Ready_c _ _ _ (SH.prop H (by (repeat first | exact At.here | apply At.there); done))) ?_
        rintro _ w42_1 ⟨v42_1, g42_1, rfl, K⟩
        refine ⟨_, rfl, ?_⟩
        replace H := SH.call H K
        clear K
        try dsimp only [replC, List.cons_append, List.nil_append, List.append_nil, agg, cellsL, Value.cells, List.toList_toArray, List.set_cons_zero, List.set_cons_succ, spliceL, List.take_succ_cons, List.take_zero, List.drop_succ_cons, List.drop_zero, List.length_cons, List.length_nil, Nat.reduceAdd, Row.cells, Gr.L, Rep.L, Mem.L, Cm.L, Rq.L, Ent.L, ActP.L] at H
        first
          | refine r_lenV rfl Try.underlying30 (by simp only [upd_get, ev, Nat.reduceEqDiff, ↓reduceIte] <;> rfl) (by first | assumption | exact SH.rsR H (by (repeat first | exact At.here | apply At.there); done) | exact SH.rsO H (by (repeat first | exact At.here | apply At.there); done) | exact Rs.toH (by first | assumption | exact SH.rsR H (by (repeat first | exact At.here | apply At.there); done) | exact SH.rsO H (by (repeat first | exact At.here | apply At.there); done)) (by omega) | exact Rs.toL (by first | assumption | exact SH.rsR H (by (repeat first | exact At.here | apply At.there); done) | exact SH.rsO H (by (repeat first | exact At.here | apply At.there); done)) (by omega) | exact Rs.toLH (by first | assumption | exact SH.rsR H (by (repeat first | exact At.here | apply At.there); done) | exact SH.rsO H (by (repeat first | exact At.here | apply At.there); done)) (by omega) (by omega) | exact (Rs.nil : Rs Non _ _ _)) ?_
          | refine r_len rfl Try.underlying30 rfl ?_
        refine r_move rfl ?_
        refine r_min rfl (by simp only [upd_get, ev, Nat.reduceEqDiff, ↓reduceIte] <;> rfl) (by simp only [upd_get, ev, Nat.reduceEqDiff, ↓reduceIte] <;> rfl) ?_
        refine r_eql rfl rfl rfl ?_
        refine r_move rfl ?_
        refine LW.known (t := 165) (c := true) rfl (decide_eq_true hrd) (fun hg42_7 => ?_)
        refine LW.want rfl rfl hg42_7 ?_
        refine r_move rfl ?_
        refine LW.want rfl rfl hg42_7 ?_
        refine r_buildQ rfl Try.underlying29 Try.zeroValue29 rfl (pl := [(0, 1), (1, 1), (2, 3)]) (by intro w; simp [go_sem]) (qs := []) (cs := [.int .i64 0, .int .i64 0, .int .i64 0, .int .i64 0, .string (ByteArray.mk #[])]) trivial rfl ?_
        refine LW.want rfl rfl hg42_7 ?_
        refine r_call rfl Try.call19 (by simp only [List.map_cons, List.map_nil, List.map_toArray, List.toList_toArray, upd_get, ev, Nat.reduceEqDiff, ↓reduceIte] <;> rfl) (AddZ_c ⟨0, 0, ⟨0, 0, ByteArray.mk #[]⟩⟩ _ _) ?_
        rintro _ w42_9 ⟨rfl, X⟩
        refine ⟨_, rfl, ?_⟩
        replace H := SH.same H X
        clear X
        refine LW.want rfl rfl hg42_7 ?_
        refine r_eql rfl rfl rfl ?_
        refine r_pickT rfl rfl hg42_7 ?_
        refine r_move rfl ?_
        refine LW.known (t := 171) (c := true) rfl (by first | rfl | (simp only [decide_eq_true_eq, decide_eq_false_iff_not, Bool.and_eq_true, Bool.or_eq_true, Bool.and_eq_false_iff, Bool.or_eq_false_iff, Bool.not_eq_true', Bool.not_eq_false', beq_iff_eq, bne_iff_ne]; omega) | simp_all) (fun hg42_13 => ?_)
        refine LW.want rfl rfl hg42_13 ?_
        refine r_move rfl ?_
        refine LW.want rfl rfl hg42_13 ?_
        refine r_call rfl Try.call24 (by simp only [List.map_cons, List.map_nil, List.map_toArray, List.toList_toArray, upd_get, ev, Nat.reduceEqDiff, ↓reduceIte] <;> rfl) (PLenZ_c _) ?_
        rintro _ _ ⟨rfl, rfl⟩
        refine ⟨_, rfl, ?_⟩
        refine LW.want rfl rfl hg42_13 ?_
        refine r_eql rfl rfl rfl ?_
        refine r_pickT rfl rfl hg42_13 ?_
        refine r_move rfl ?_
        refine LW.known (t := 176) (c := true) rfl (by first | rfl | (simp only [decide_eq_true_eq, decide_eq_false_iff_not, Bool.and_eq_true, Bool.or_eq_true, Bool.and_eq_false_iff, Bool.or_eq_false_iff, Bool.not_eq_true', Bool.not_eq_false', beq_iff_eq, bne_iff_ne]; omega) | simp_all) (fun hg42_18 => ?_)
        refine LW.want rfl rfl hg42_18 ?_
        refine r_move rfl ?_
        refine LW.want rfl rfl hg42_18 ?_
        refine r_call rfl Try.call23 (by simp only [List.map_cons, List.map_nil, List.map_toArray, List.toList_toArray, upd_get, ev, Nat.reduceEqDiff, ↓reduceIte] <;> rfl) (ListZ_c _) ?_
        rintro _ _ ⟨rfl, rfl⟩
        refine ⟨_, rfl, ?_⟩
        refine LW.want rfl rfl hg42_18 ?_
        first
          | refine r_lenV rfl Try.underlying30 (by simp only [upd_get, ev, Nat.reduceEqDiff, ↓reduceIte] <;> rfl) (by first | assumption | exact SH.rsR H (by (repeat first | exact At.here | apply At.there); done) | exact SH.rsO H (by (repeat first | exact At.here | apply At.there); done) | exact Rs.toH (by first | assumption | exact SH.rsR H (by (repeat first | exact At.here | apply At.there); done) | exact SH.rsO H (by (repeat first | exact At.here | apply At.there); done)) (by omega) | exact Rs.toL (by first | assumption | exact SH.rsR H (by (repeat first | exact At.here | apply At.there); done) | exact SH.rsO H (by (repeat first | exact At.here | apply At.there); done)) (by omega) | exact Rs.toLH (by first | assumption | exact SH.rsR H (by (repeat first | exact At.here | apply At.there); done) | exact SH.rsO H (by (repeat first | exact At.here | apply At.there); done)) (by omega) (by omega) | exact (Rs.nil : Rs Non _ _ _)) ?_
          | refine r_len rfl Try.underlying30 rfl ?_
        refine LW.want rfl rfl hg42_18 ?_
        refine r_move rfl ?_
        refine LW.want rfl rfl hg42_18 ?_
        refine r_call rfl Try.call20 (by simp only [List.map_cons, List.map_nil, List.map_toArray, List.toList_toArray, upd_get, ev, Nat.reduceEqDiff, ↓reduceIte] <;> rfl) (ReadyZ_c _ _ _) ?_
        rintro _ _ ⟨rfl, rfl⟩
        refine ⟨_, rfl, ?_⟩
        refine LW.want rfl rfl hg42_18 ?_
        first
          | refine r_lenV rfl Try.underlying30 (by simp only [upd_get, ev, Nat.reduceEqDiff, ↓reduceIte] <;> rfl) (by first | assumption | exact SH.rsR H (by (repeat first | exact At.here | apply At.there); done) | exact SH.rsO H (by (repeat first | exact At.here | apply At.there); done) | exact Rs.toH (by first | assumption | exact SH.rsR H (by (repeat first | exact At.here | apply At.there); done) | exact SH.rsO H (by (repeat first | exact At.here | apply At.there); done)) (by omega) | exact Rs.toL (by first | assumption | exact SH.rsR H (by (repeat first | exact At.here | apply At.there); done) | exact SH.rsO H (by (repeat first | exact At.here | apply At.there); done)) (by omega) | exact Rs.toLH (by first | assumption | exact SH.rsR H (by (repeat first | exact At.here | apply At.there); done) | exact SH.rsO H (by (repeat first | exact At.here | apply At.there); done)) (by omega) (by omega) | exact (Rs.nil : Rs Non _ _ _)) ?_
          | refine r_len rfl Try.underlying30 rfl ?_
        refine LW.want rfl rfl hg42_18 ?_
        refine r_add rfl rfl rfl (wr_i64 (by omega) (by omega)) ?_
        refine LW.want rfl rfl hg42_18 ?_
        refine r_move rfl ?_
        refine LW.want rfl rfl hg42_18 ?_
        refine r_call rfl Try.call52 (by simp only [List.map_cons, List.map_nil, List.map_toArray, List.toList_toArray, upd_get, ev, Nat.reduceEqDiff, ↓reduceIte] <;> rfl) (PFreshZ_c _ _) ?_
        rintro _ w42_26 ⟨rfl, X⟩
        refine ⟨_, rfl, ?_⟩
        replace H := SH.same H X
        clear X
        refine LW.want rfl rfl hg42_18 ?_
        first
          | refine r_lenV rfl Try.underlying30 (by simp only [upd_get, ev, Nat.reduceEqDiff, ↓reduceIte] <;> rfl) (by first | assumption | exact SH.rsR H (by (repeat first | exact At.here | apply At.there); done) | exact SH.rsO H (by (repeat first | exact At.here | apply At.there); done) | exact Rs.toH (by first | assumption | exact SH.rsR H (by (repeat first | exact At.here | apply At.there); done) | exact SH.rsO H (by (repeat first | exact At.here | apply At.there); done)) (by omega) | exact Rs.toL (by first | assumption | exact SH.rsR H (by (repeat first | exact At.here | apply At.there); done) | exact SH.rsO H (by (repeat first | exact At.here | apply At.there); done)) (by omega) | exact Rs.toLH (by first | assumption | exact SH.rsR H (by (repeat first | exact At.here | apply At.there); done) | exact SH.rsO H (by (repeat first | exact At.here | apply At.there); done)) (by omega) (by omega) | exact (Rs.nil : Rs Non _ _ _)) ?_
          | refine r_len rfl Try.underlying30 rfl ?_
        refine LW.want rfl rfl hg42_18 ?_
        refine r_add rfl rfl rfl (wr_i64 (by omega) (by omega)) ?_
        refine LW.want rfl rfl hg42_18 ?_
        refine r_eql rfl rfl rfl ?_
        refine r_pickT rfl rfl hg42_18 ?_
        refine r_move rfl ?_
        refine LW.known (t := 190) (c := true) rfl (by first | rfl | (simp only [decide_eq_true_eq, decide_eq_false_iff_not, Bool.and_eq_true, Bool.or_eq_true, Bool.and_eq_false_iff, Bool.or_eq_false_iff, Bool.not_eq_true', Bool.not_eq_false', beq_iff_eq, bne_iff_ne]; omega) | simp_all) (fun hg42_32 => ?_)
        refine LW.want rfl rfl hg42_32 ?_
        refine r_move rfl ?_
        refine LW.want rfl rfl hg42_32 ?_
        refine r_call rfl Try.call25 (by simp only [List.map_cons, List.map_nil, List.map_toArray, List.toList_toArray, upd_get, ev, Nat.reduceEqDiff, ↓reduceIte] <;> rfl) (HasZ_c _ _ _) ?_
        rintro _ _ ⟨rfl, rfl⟩
        refine ⟨_, rfl, ?_⟩
        refine LW.want rfl rfl hg42_32 ?_
        refine r_not rfl rfl ?_
        refine r_pickT rfl rfl hg42_32 ?_
        refine r_move rfl ?_
        refine LW.known (t := 195) (c := true) rfl (by first | rfl | (simp only [decide_eq_true_eq, decide_eq_false_iff_not, Bool.and_eq_true, Bool.or_eq_true, Bool.and_eq_false_iff, Bool.or_eq_false_iff, Bool.not_eq_true', Bool.not_eq_false', beq_iff_eq, bne_iff_ne]; omega) | simp_all) (fun hg42_37 => ?_)
        refine LW.want rfl rfl hg42_37 ?_
        refine r_call rfl Try.call21 (by simp only [List.map_cons, List.map_nil, List.map_toArray, List.toList_toArray, upd_get, ev, Nat.reduceEqDiff, ↓reduceIte] <;> rfl) (awake19_c _) ?_
        rintro _ w42_37 ⟨rfl, X⟩
        refine ⟨_, rfl, ?_⟩
        replace H := SH.same H X
        clear X
        refine r_pickT rfl rfl hg42_37 ?_
        refine r_assign rfl ?_
        refine LW.nil ?_
        refine thenE_norm ?_
        refine cut (K := K45) [10] (fun σ => ?_)
        simp only [setL, keepE, upd_get, ev, Nat.reduceEqDiff, ↓reduceIte]
        refine h45 _ _ ?_; clear h45; try clear K45
        refine CW.ret (ret1 Try.results12 (by simp only [upd_get, ev, Nat.reduceEqDiff, ↓reduceIte]; rfl) ?_)
        exact ⟨rfl, H.ext⟩
end Go.Proofs.Ytlfbofnfhhddbaa
