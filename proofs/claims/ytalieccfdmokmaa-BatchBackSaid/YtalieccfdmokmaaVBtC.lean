/-
  The walks of layer 12's functions, the third part: what a batch is put as.
-/
import Derived.Test.YtalieccfdmokmaaVBtB
namespace Go.Proofs.Ytalieccfdmokmaa
set_option linter.unusedSimpArgs false
set_option linter.unusedVariables false
set_option maxRecDepth 20000
open Go.V Go.RowKit Go.ChangeShapes Go.WideShapes

theorem u8_row1 {c : Int} (h0 : 0 ≤ c) (h1 : c < 256) : flat [UInt8.ofNat c.toNat] = [.int .u8 c] := by
  rw [flat_u8']
  simp only [List.map_cons, List.map_nil, u8v, UInt8.toNat_ofNat']
  congr 2
  omega
def numB (l : List Int) : List UInt8 := l.flatMap fun n => eight n.toNat
def rowB (rs : List Rq) : List UInt8 := rs.flatMap fun r => (putRq r).1
def bodyB (v : Int) (t : Tp) (m : Int) (rs : List Rq) : List UInt8 := 0 :: (numB [v, t.view, t.slot, m] ++ (UInt8.ofNat rs.length :: rowB rs))
/-- What a batch is put as. -/
def putBat (f : Bool) (v : Int) (t : Tp) (m : Int) (rs : List Rq) : List UInt8 × Int :=
  if mayBat f v t m rs = true then (if f = true then [1] else bodyB v t m rs, 0) else ([], 1)
theorem numB_len : ∀ l : List Int, (numB l).length = 8 * l.length
  | [] => rfl
  | n :: l => by
    have := numB_len l
    simp only [numB, List.flatMap_cons, List.length_append, List.length_cons, eight_len] at this ⊢
    omega
theorem numB_snoc {l : List Int} {i : Nat} {n : Int} (h : l[i]? = some n) : numB (l.take (i + 1)) = numB (l.take i) ++ eight n.toNat := by
  rw [numB, V.take_snoc h, List.flatMap_append]
  simp [numB]
theorem putRq_len (r : Rq) : (putRq r).1.length ≤ 40 := by
  unfold putRq putReqM
  split
  · have := putM_len r.cmd.kind r.cmd.session r.cmd.name.data.toList
    simp only [List.length_append, List.length_cons, List.length_nil, eight_len]
    omega
  · simp
theorem rowB_len : ∀ rs : List Rq, (rowB rs).length ≤ 40 * rs.length
  | [] => by simp [rowB]
  | r :: rs => by
    have h1 := rowB_len rs
    have h2 := putRq_len r
    simp only [rowB, List.flatMap_cons, List.length_append, List.length_cons] at h1 ⊢
    omega
theorem rowB_snoc {rs : List Rq} {i : Nat} {x : Rq} (h : rs[i]? = some x) : rowB (rs.take (i + 1)) = rowB (rs.take i) ++ (putRq x).1 := by
  rw [rowB, V.take_snoc h, List.flatMap_append]
  simp [rowB]
theorem mayBat_no {f : Bool} {v : Int} {t : Tp} {m : Int} {rs : List Rq} (h : mayBat f v t m rs = true) (hf : ¬ f = true) :
    (0 ≤ v ∧ v ≤ 2305843009213693952) ∧ (0 ≤ m ∧ m ≤ 2305843009213693952) ∧ (0 ≤ t.view ∧ t.view ≤ 2305843009213693952) ∧ (0 ≤ t.slot ∧ t.slot ≤ 2305843009213693952) ∧ rs.length ≤ 3 ∧ mayQ rs = true := by
  rw [mayBat, if_neg hf] at h
  simp only [Bool.and_eq_true, highM_t, decide_eq_true_eq] at h
  obtain ⟨⟨⟨⟨⟨h1, h2⟩, h3⟩, h4⟩, h5⟩, h6⟩ := h
  exact ⟨h1, h2, h3, h4, h5, h6⟩
theorem nums_rng {v m tv ts : Int} {P : Int → Prop} (h1 : P v) (h2 : P tv) (h3 : P ts) (h4 : P m) {i : Nat} {n : Int} (h : [v, tv, ts, m][i]? = some n) : P n := by
  have := List.mem_of_getElem? h
  simp only [List.mem_cons, List.not_mem_nil, or_false] at this
  rcases this with rfl | rfl | rfl | rfl
  · exact h1
  · exact h2
  · exact h3
  · exact h4
set_option maxHeartbeats 8000000 in
theorem PutBat_c {F : Nat → Prop} (b : Bat) {rs : List Rq} (w : World) (hv : Rs F w b.reqs rs) (hs : smallQ rs) :
    Calls Try.prog 18 #[agg b] w fun e w' => ∃ v g, e = .returned (.tuple #[v, .int .i64 (putBat b.fill b.view b.tip b.time rs).2]) ∧ SH Non Non w w' [.O 5 v (putBat b.fill b.view b.tip b.time rs).1 g] := by
  obtain ⟨bf, bv, ⟨tv, ts⟩, bm, bq⟩ := b
  dsimp only at hv ⊢
  have H := (SH.start w).arg hv
  have h63 := hv.len63
  refine calls_of_CW Try.func18 rfl Try.ntmps18 (Nat.le_of_ble_eq_true rfl) ?_
  simp only [argE, argFrom, Nat.reduceAdd]
  refine CW.seq (fun K1 h1 => ?_)
  refine CW.region ?_
  refine s_box H rfl (by simp only [upd_get, ev, Nat.reduceEqDiff, ↓reduceIte] <;> rfl) rfl ?_
  clear H
  intro b0_0 w0_0 H
  try dsimp only [replC, List.cons_append, List.nil_append, List.append_nil, agg, cellsL, Value.cells, List.toList_toArray, List.set_cons_zero, List.set_cons_succ, spliceL, List.take_succ_cons, List.take_zero, List.drop_succ_cons, List.drop_zero, List.length_cons, List.length_nil, Nat.reduceAdd, Row.cells, Cm.L, Rq.L, Tp.L, Bat.L] at H
  refine r_assign rfl ?_
  refine r_assign rfl ?_
  refine LW.nil ?_
  refine thenE_norm (h1 _ _ ?_); clear h1; try clear K1
  refine CW.seq (fun K2 h2 => ?_)
  refine CW.seq (fun K3 h3 => ?_)
  refine CW.region ?_
  refine r_loadA rfl Try.isAgg27 Try.sizeOf27 rfl (by first | exact SH.cells H (by (repeat first | exact At.here | apply At.there); done)) (by rfl) ?_
  refine r_call rfl Try.call19 (by simp only [List.map_cons, List.map_nil, List.map_toArray, List.toList_toArray, upd_get, ev, Nat.reduceEqDiff, ↓reduceIte] <;> rfl) (MayBat_c ⟨_, _, ⟨_, _⟩, _, _⟩ _ (by first | assumption | exact SH.rsR H (by (repeat first | exact At.here | apply At.there); done) | exact SH.rsO H (by (repeat first | exact At.here | apply At.there); done) | exact (Rs.nil : Rs Non _ _ _)) (by assumption)) ?_
  rintro _ w1_1 ⟨rfl, X⟩
  refine ⟨_, rfl, ?_⟩
  replace H := SH.same H X
  clear X
  refine r_not rfl rfl ?_
  refine LW.nil ?_
  refine thenE_norm (h3 _ _ ?_); clear h3; try clear K3
  refine CW.cond rfl (fun hc1 => ?_) (fun hc1 => ?_)
  · try simp only [decide_eq_true_eq, decide_eq_false_iff_not, Bool.and_eq_true, Bool.or_eq_true, Bool.and_eq_false_iff, Bool.or_eq_false_iff, Bool.not_eq_true', Bool.not_eq_false', beq_iff_eq, bne_iff_ne, ne_eq, Decidable.not_not] at hc1
    refine CW.seq (fun K4 h4 => ?_)
    refine CW.region ?_
    refine r_assign rfl ?_
    refine r_assign rfl ?_
    refine LW.nil ?_
    refine thenE_norm ?_
    refine cut (K := K4) [2, 3] (fun σ => ?_)
    simp only [setL, keepE, upd_get, ev, Nat.reduceEqDiff, ↓reduceIte]
    refine h4 _ _ ?_; clear h4; try clear K4
    refine CW.ret (thenE_ret (ret2 Try.results18 (by simp only [upd_get, ev, Nat.reduceEqDiff, ↓reduceIte]; rfl) (by simp only [upd_get, ev, Nat.reduceEqDiff, ↓reduceIte]; rfl) ?_))
    rw [putBat, if_neg (by simpa using hc1)]
    exact ⟨_, none, rfl, SH.give (H.addO (α := UInt8) 5) (by repeat first | exact List.Sublist.refl _ | exact List.nil_sublist _ | apply List.Sublist.cons_cons | apply List.Sublist.cons) ⟨trivial, trivial⟩⟩
  · try simp only [decide_eq_true_eq, decide_eq_false_iff_not, Bool.and_eq_true, Bool.or_eq_true, Bool.and_eq_false_iff, Bool.or_eq_false_iff, Bool.not_eq_true', Bool.not_eq_false', beq_iff_eq, bne_iff_ne, ne_eq, Decidable.not_not] at hc1
    have hm : mayBat bf bv ⟨tv, ts⟩ bm rs = true := by simpa using hc1
    refine CW.skip ?_
    refine thenE_norm (h2 _ _ ?_); clear h2; try clear K2
    refine CW.seq (fun K5 h5 => ?_)
    refine CW.seq (fun K6 h6 => ?_)
    refine CW.region ?_
    refine r_fieldAddrO rfl Try.underlying27 rfl Try.sizeOf4 (by decide) (show _ = 0 from rfl) rfl ?_
    refine r_load rfl Try.isAgg4 rfl (by first | exact SH.cellB H (by (repeat first | exact At.here | apply At.there); done) (by rfl) | assumption) ?_
    refine LW.nil ?_
    refine thenE_norm ?_
    refine cut (K := K6) [1, 17] (fun σ => ?_)
    simp only [setL, keepE, upd_get, ev, Nat.reduceEqDiff, ↓reduceIte]
    refine h6 _ _ ?_; clear h6; try clear K6
    refine CW.cond rfl (fun hc2 => ?_) (fun hc2 => ?_)
    · try simp only [decide_eq_true_eq, decide_eq_false_iff_not, Bool.and_eq_true, Bool.or_eq_true, Bool.and_eq_false_iff, Bool.or_eq_false_iff, Bool.not_eq_true', Bool.not_eq_false', beq_iff_eq, bne_iff_ne, ne_eq, Decidable.not_not] at hc2
      refine CW.seq (fun K7 h7 => ?_)
      refine CW.region ?_
      refine r_buildSlice rfl Try.underlying22 Try.sizeOf5 Try.zeroValue5 rfl rfl rfl (by simp only [List.map_cons, List.map_nil, List.toList_toArray, List.foldl_cons, List.foldl_nil, List.replicate_succ, List.replicate_zero, List.set_cons_zero, List.set_cons_succ, upd_get, ev, Nat.reduceEqDiff, ↓reduceIte] <;> rfl) ?_
      intro b4_0 w4_0 hb4_0 hs4_0 hE4_0 hB4_0
      replace H := SH.call H (SH.fromB hE4_0 hb4_0 hs4_0 hB4_0)
      clear hb4_0 hs4_0 hE4_0 hB4_0
      try dsimp only [replC, List.cons_append, List.nil_append, List.append_nil, agg, cellsL, Value.cells, List.toList_toArray, List.set_cons_zero, List.set_cons_succ, spliceL, List.take_succ_cons, List.take_zero, List.drop_succ_cons, List.drop_zero, List.length_cons, List.length_nil, Nat.reduceAdd, Row.cells, Cm.L, Rq.L, Tp.L, Bat.L] at H
      replace H := SH.row (b := b4_0) (xs := ([1] : List UInt8)) (n := 1) (cap := 1) H (by (repeat first | exact At.here | apply At.there); done) (by rfl) (by intro x hx; first | rfl | (simp at hx; done) | (simp only [List.mem_cons, List.not_mem_nil, or_false] at hx; rcases hx with rfl <;> first | rfl | exact (by first | rfl | assumption | exact Rs.oneC (by first | assumption | exact SH.rsR H (by (repeat first | exact At.here | apply At.there); done) | exact SH.rsO H (by (repeat first | exact At.here | apply At.there); done) | exact (Rs.nil : Rs Non _ _ _)) | (simp only [List.all_cons, List.all_nil, Bool.and_true, Bool.and_eq_true, Row.cells, Cm.L, Rq.L, Tp.L, Bat.L]; (repeat' constructor) <;> first | rfl | assumption | exact Rs.oneC (by first | assumption | exact SH.rsR H (by (repeat first | exact At.here | apply At.there); done) | exact SH.rsO H (by (repeat first | exact At.here | apply At.there); done) | exact (Rs.nil : Rs Non _ _ _)))))) (by rfl) rfl (by decide)
      try dsimp only [replC, List.cons_append, List.nil_append, List.append_nil, agg, cellsL, Value.cells, List.toList_toArray, List.set_cons_zero, List.set_cons_succ, spliceL, List.take_succ_cons, List.take_zero, List.drop_succ_cons, List.drop_zero, List.length_cons, List.length_nil, Nat.reduceAdd, Row.cells, Cm.L, Rq.L, Tp.L, Bat.L] at H
      refine r_assign rfl ?_
      refine r_assign rfl ?_
      refine LW.nil ?_
      refine thenE_norm (h7 _ _ ?_); clear h7; try clear K7
      refine CW.ret (thenE_ret (ret2 Try.results18 (by simp only [upd_get, ev, Nat.reduceEqDiff, ↓reduceIte]; rfl) (by simp only [upd_get, ev, Nat.reduceEqDiff, ↓reduceIte]; rfl) ?_))
      rw [putBat, if_pos hm, if_pos hc2]
      exact ⟨_, _, rfl, SH.give H (by repeat first | exact List.Sublist.refl _ | exact List.nil_sublist _ | apply List.Sublist.cons_cons | apply List.Sublist.cons) ⟨trivial, trivial⟩⟩
    · try simp only [decide_eq_true_eq, decide_eq_false_iff_not, Bool.and_eq_true, Bool.or_eq_true, Bool.and_eq_false_iff, Bool.or_eq_false_iff, Bool.not_eq_true', Bool.not_eq_false', beq_iff_eq, bne_iff_ne, ne_eq, Decidable.not_not] at hc2
      have hf : ¬ bf = true := by simpa using hc2
      obtain ⟨m1, m2, m3, m4, m5, m6⟩ := mayBat_no hm hf
      dsimp only at m3 m4
      have hgd := mayQ_all m6
      refine CW.skip ?_
      refine thenE_norm (h5 _ _ ?_); clear h5; try clear K5
      refine CW.seq (fun K8 h8 => ?_)
      refine CW.region ?_
      refine r_buildSlice rfl Try.underlying22 Try.sizeOf5 Try.zeroValue5 rfl rfl rfl (by simp only [List.map_cons, List.map_nil, List.toList_toArray, List.foldl_cons, List.foldl_nil, List.replicate_succ, List.replicate_zero, List.set_cons_zero, List.set_cons_succ, upd_get, ev, Nat.reduceEqDiff, ↓reduceIte] <;> rfl) ?_
      intro b5_0 w5_0 hb5_0 hs5_0 hE5_0 hB5_0
      replace H := SH.call H (SH.fromB hE5_0 hb5_0 hs5_0 hB5_0)
      clear hb5_0 hs5_0 hE5_0 hB5_0
      try dsimp only [replC, List.cons_append, List.nil_append, List.append_nil, agg, cellsL, Value.cells, List.toList_toArray, List.set_cons_zero, List.set_cons_succ, spliceL, List.take_succ_cons, List.take_zero, List.drop_succ_cons, List.drop_zero, List.length_cons, List.length_nil, Nat.reduceAdd, Row.cells, Cm.L, Rq.L, Tp.L, Bat.L] at H
      replace H := SH.row (b := b5_0) (xs := ([0] : List UInt8)) (n := 1) (cap := 1) H (by (repeat first | exact At.here | apply At.there); done) (by rfl) (by intro x hx; first | rfl | (simp at hx; done) | (simp only [List.mem_cons, List.not_mem_nil, or_false] at hx; rcases hx with rfl <;> first | rfl | exact (by first | rfl | assumption | exact Rs.oneC (by first | assumption | exact SH.rsR H (by (repeat first | exact At.here | apply At.there); done) | exact SH.rsO H (by (repeat first | exact At.here | apply At.there); done) | exact (Rs.nil : Rs Non _ _ _)) | (simp only [List.all_cons, List.all_nil, Bool.and_true, Bool.and_eq_true, Row.cells, Cm.L, Rq.L, Tp.L, Bat.L]; (repeat' constructor) <;> first | rfl | assumption | exact Rs.oneC (by first | assumption | exact SH.rsR H (by (repeat first | exact At.here | apply At.there); done) | exact SH.rsO H (by (repeat first | exact At.here | apply At.there); done) | exact (Rs.nil : Rs Non _ _ _)))))) (by rfl) rfl (by decide)
      try dsimp only [replC, List.cons_append, List.nil_append, List.append_nil, agg, cellsL, Value.cells, List.toList_toArray, List.set_cons_zero, List.set_cons_succ, spliceL, List.take_succ_cons, List.take_zero, List.drop_succ_cons, List.drop_zero, List.length_cons, List.length_nil, Nat.reduceAdd, Row.cells, Cm.L, Rq.L, Tp.L, Bat.L] at H
      refine r_assign rfl ?_
      refine LW.nil ?_
      refine thenE_norm (h8 _ _ ?_); clear h8; try clear K8
      refine CW.seq (fun K9 h9 => ?_)
      refine CW.seq (fun K10 h10 => ?_)
      refine CW.region ?_
      refine r_fieldAddrO rfl Try.underlying27 rfl Try.sizeOf3 (by decide) (show _ = 1 from rfl) rfl ?_
      refine r_load rfl Try.isAgg3 rfl (by first | exact SH.cellB H (by (repeat first | exact At.here | apply At.there); done) (by rfl) | assumption) ?_
      refine r_fieldAddrO rfl Try.underlying27 rfl Try.sizeOf24 (by decide) (show _ = 2 from rfl) rfl ?_
      refine r_fieldAddrO rfl Try.underlying24 rfl Try.sizeOf3 (by decide) (show _ = 2 from rfl) rfl ?_
      refine r_load rfl Try.isAgg3 rfl (by first | exact SH.cellB H (by (repeat first | exact At.here | apply At.there); done) (by rfl) | assumption) ?_
      refine r_fieldAddrO rfl Try.underlying27 rfl Try.sizeOf24 (by decide) (show _ = 2 from rfl) rfl ?_
      refine r_fieldAddrO rfl Try.underlying24 rfl Try.sizeOf3 (by decide) (show _ = 3 from rfl) rfl ?_
      refine r_load rfl Try.isAgg3 rfl (by first | exact SH.cellB H (by (repeat first | exact At.here | apply At.there); done) (by rfl) | assumption) ?_
      refine r_fieldAddrO rfl Try.underlying27 rfl Try.sizeOf3 (by decide) (show _ = 4 from rfl) rfl ?_
      refine r_load rfl Try.isAgg3 rfl (by first | exact SH.cellB H (by (repeat first | exact At.here | apply At.there); done) (by rfl) | assumption) ?_
      refine r_buildArr (vs := [_, _, _, _]) rfl Try.underlying93 Try.zeroValue93 Try.sizeOf3 rfl (by simp only [List.map_cons, List.map_nil, List.toList_toArray, numbered, Nat.reduceAdd, upd_get, ev, Nat.reduceEqDiff, ↓reduceIte] <;> rfl) rfl (by rfl) ?_
      refine r_move rfl ?_
      refine LW.nil ?_
      refine thenE_norm ?_
      refine cut (K := K10) [1, 4, 30, 31] (fun σ => ?_)
      simp only [setL, keepE, upd_get, ev, Nat.reduceEqDiff, ↓reduceIte]
      refine h10 _ _ ?_; clear h10; try clear K10
      refine CW.block ?_
      refine CW.loopR [1, 30] [4, 31] (fun q vs w' => ∃ (i : Nat) (u : Value) (g : Option Nat), vs = [u, .int .i64 i] ∧ i ≤ 4 ∧ q = 4 - i ∧ SH Non Any w w' [.R (Old w) bq rs, .B b0_0 27 [.bool bf, .int .i64 bv, .int .i64 tv, .int .i64 ts, .int .i64 bm, bq], .O 5 u (0 :: numB (([bv, tv, ts, bm] : List Int).take i)) g]) (4) ?_ ?_
      · exact ⟨0, _, _, rfl, by omega, rfl, SH.sel H [0, 1, 2] (by decide) rfl⟩
      try clear H
      rintro n1 vs1 wL1 σ ⟨i, u, g, rfl, hi, rfl, H⟩
      simp only [setL, keepE, upd_get, ev, Nat.reduceEqDiff, ↓reduceIte]
      refine CW.seq (fun K11 h11 => ?_)
      refine CW.region ?_
      refine r_lss rfl rfl rfl ?_
      refine LW.nil ?_
      refine thenE_norm (h11 _ _ ?_); clear h11; try clear K11
      refine CW.seq (fun K12 h12 => ?_)
      refine CW.cond rfl (fun hc3 => ?_) (fun hc3 => ?_)
      · try simp only [decide_eq_true_eq, decide_eq_false_iff_not, Bool.and_eq_true, Bool.or_eq_true, Bool.and_eq_false_iff, Bool.or_eq_false_iff, Bool.not_eq_true', Bool.not_eq_false', beq_iff_eq, bne_iff_ne, ne_eq, Decidable.not_not] at hc3
        refine CW.skip ?_
        refine thenE_norm (h12 _ _ ?_); clear h12; try clear K12
        refine CW.seq (fun K13 h13 => ?_)
        refine CW.block ?_
        refine CW.seq (fun K14 h14 => ?_)
        obtain ⟨n, hn⟩ := get_of_lt (show i < ([bv, tv, ts, bm] : List Int).length by show i < 4; omega)
        have hcell : ([.int .i64 bv, .int .i64 tv, .int .i64 ts, .int .i64 bm] : List Value)[(i : Int).toNat]? = some (.int .i64 n) := by
          show (([bv, tv, ts, bm] : List Int).map (Value.int .i64))[i]? = _
          rw [List.getElem?_map, hn]; rfl
        have hnr := nums_rng (P := fun n => 0 ≤ n ∧ n ≤ 2305843009213693952) m1 m3 m4 m2 hn
        have p2 : putNumM n = (eight n.toNat, 0) := by rw [putNumM, if_pos (by omega)]
        have hsn := numB_snoc hn
        have hzl : (0 :: numB (([bv, tv, ts, bm] : List Int).take i)).length ≤ 33 := by
          rw [List.length_cons, numB_len, List.length_take]; show 8 * min i 4 + 1 ≤ 33; omega
        have hsn2 : (0 :: numB (([bv, tv, ts, bm] : List Int).take (i + 1))) = (0 :: numB (([bv, tv, ts, bm] : List Int).take i)) ++ eight n.toNat := by rw [hsn]; rfl
        generalize (0 :: numB (([bv, tv, ts, bm] : List Int).take i)) = zs at *
        refine CW.region ?_
        refine r_indexArr rfl Try.underlying93 Try.isAgg3 Try.sizeOf3 rfl (by simp only [upd_get, ev, Nat.reduceEqDiff, ↓reduceIte] <;> rfl) (by omega) (by omega) hcell ?_
        refine r_assign rfl ?_
        refine LW.nil ?_
        refine thenE_norm (h14 _ _ ?_); clear h14; try clear K14
        refine CW.seq (fun K15 h15 => ?_)
        refine CW.region ?_
        refine r_move rfl ?_
        refine r_call rfl Try.call56 (by simp only [List.map_cons, List.map_nil, List.map_toArray, List.toList_toArray, upd_get, ev, Nat.reduceEqDiff, ↓reduceIte] <;> rfl) (PutNumS_c _ _) ?_
        rintro _ w9_1 ⟨v9_1, F9_1, rfl, K⟩
        refine ⟨_, rfl, ?_⟩
        replace H := SH.call H K
        clear K
        try dsimp only [replC, List.cons_append, List.nil_append, List.append_nil] at H
        rw [p2] at H ⊢
        dsimp only at H ⊢
        refine r_move rfl ?_
        refine r_extract rfl (by simp only [upd_get, ev, Nat.reduceEqDiff, ↓reduceIte] <;> rfl) (by simp only [List.getElem?_toArray, List.getElem?_cons_zero, List.getElem?_cons_succ] <;> rfl) ?_
        refine r_extract rfl (by simp only [upd_get, ev, Nat.reduceEqDiff, ↓reduceIte] <;> rfl) (by simp only [List.getElem?_toArray, List.getElem?_cons_zero, List.getElem?_cons_succ] <;> rfl) ?_
        refine r_assign rfl ?_
        refine r_assign rfl ?_
        refine LW.nil ?_
        refine thenE_norm ?_
        refine cut (K := K15) [1, 4, 7, 30, 31] (fun σ => ?_)
        simp only [setL, keepE, upd_get, ev, Nat.reduceEqDiff, ↓reduceIte]
        refine h15 _ _ ?_; clear h15; try clear K15
        refine CW.region ?_
        refine r_move rfl ?_
        refine r_move rfl ?_
        refine s_append H rfl Try.underlying22 Try.underlying22 Try.type5 rfl (by simp only [upd_get, ev, Nat.reduceEqDiff, ↓reduceIte] <;> rfl) (by simp only [upd_get, ev, Nat.reduceEqDiff, ↓reduceIte] <;> rfl) (by (repeat first | exact At.here | apply At.there); done) (by first | assumption | exact SH.rsR H (by (repeat first | exact At.here | apply At.there); done) | exact SH.rsO H (by (repeat first | exact At.here | apply At.there); done) | exact (Rs.nil : Rs Non _ _ _)) (by rfl) (by rfl) (by show (_ + _) * 1 ≤ _; rw [eight_len]; omega) (by show _ ≤ 9223372036854775807; rw [eight_len]; omega) ?_
        clear H
        intro v10_2 w10_2 g10_2 H hN10_2
        try dsimp only [replC, List.cons_append, List.nil_append, List.append_nil] at H
        refine r_assign rfl ?_
        refine LW.nil ?_
        refine blockE_norm ?_
        refine thenE_norm (h13 _ _ ?_); clear h13; try clear K13
        refine CW.region ?_
        refine r_add rfl rfl rfl (wr_i64 (by omega) (by omega)) ?_
        refine r_move rfl ?_
        refine LW.nil ?_
        refine thenE_norm ⟨rfl, ?_⟩
        exact ⟨4 - (i + 1), by omega, i + 1, _, _, rfl, by omega, rfl, by rw [hsn2]; exact SH.sel H [0, 1, 2] (by decide) rfl⟩
      · try simp only [decide_eq_true_eq, decide_eq_false_iff_not, Bool.and_eq_true, Bool.or_eq_true, Bool.and_eq_false_iff, Bool.or_eq_false_iff, Bool.not_eq_true', Bool.not_eq_false', beq_iff_eq, bne_iff_ne, ne_eq, Decidable.not_not] at hc3
        refine CW.exit (thenE_exit (thenE_exit (blockE_hit ?_)))
        refine thenE_norm (h9 _ _ ?_); clear h9; try clear K9
        refine CW.seq (fun K16 h16 => ?_)
        obtain rfl : i = 4 := by omega
        have hn4 : numB (([bv, tv, ts, bm] : List Int).take 4) = numB [bv, tv, ts, bm] := rfl
        rw [hn4] at H
        have hnl := numB_len [bv, tv, ts, bm]
        have hl4 : ([bv, tv, ts, bm] : List Int).length = 4 := rfl
        refine CW.region ?_
        refine r_move rfl ?_
        refine r_fieldAddrO rfl Try.underlying27 rfl Try.sizeOf25 (by decide) (show _ = 5 from rfl) rfl ?_
        refine r_load rfl Try.isAgg25 rfl (by first | exact SH.cellB H (by (repeat first | exact At.here | apply At.there); done) (by rfl) | assumption) ?_
        first
          | refine r_lenV rfl Try.underlying25 (by simp only [upd_get, ev, Nat.reduceEqDiff, ↓reduceIte] <;> rfl) (by first | assumption | exact SH.rsR H (by (repeat first | exact At.here | apply At.there); done) | exact SH.rsO H (by (repeat first | exact At.here | apply At.there); done) | exact (Rs.nil : Rs Non _ _ _)) ?_
          | refine r_len rfl Try.underlying25 rfl ?_
        refine r_convI rfl Try.underlying3 Try.underlying5 rfl (wr_u8 (by omega) (by omega)) ?_
        refine r_buildSlice rfl Try.underlying22 Try.sizeOf5 Try.zeroValue5 rfl rfl rfl (by simp only [List.map_cons, List.map_nil, List.toList_toArray, List.foldl_cons, List.foldl_nil, List.replicate_succ, List.replicate_zero, List.set_cons_zero, List.set_cons_succ, upd_get, ev, Nat.reduceEqDiff, ↓reduceIte] <;> rfl) ?_
        intro b12_5 w12_5 hb12_5 hs12_5 hE12_5 hB12_5
        replace H := SH.call H (SH.fromB hE12_5 hb12_5 hs12_5 hB12_5)
        clear hb12_5 hs12_5 hE12_5 hB12_5
        try dsimp only [replC, List.cons_append, List.nil_append, List.append_nil, agg, cellsL, Value.cells, List.toList_toArray, List.set_cons_zero, List.set_cons_succ, spliceL, List.take_succ_cons, List.take_zero, List.drop_succ_cons, List.drop_zero, List.length_cons, List.length_nil, Nat.reduceAdd, Row.cells, Cm.L, Rq.L, Tp.L, Bat.L] at H
        replace H := SH.row (b := b12_5) (xs := ([UInt8.ofNat ((rs.length : Nat) : Int).toNat] : List UInt8)) (n := 1) (cap := 1) H (by (repeat first | exact At.here | apply At.there); done) (by exact u8_row1 (by omega) (by omega)) (by intro x hx; first | rfl | (simp at hx; done) | (simp only [List.mem_cons, List.not_mem_nil, or_false] at hx; rcases hx with rfl <;> first | rfl | exact (by first | rfl | assumption | exact Rs.oneC (by first | assumption | exact SH.rsR H (by (repeat first | exact At.here | apply At.there); done) | exact SH.rsO H (by (repeat first | exact At.here | apply At.there); done) | exact (Rs.nil : Rs Non _ _ _)) | (simp only [List.all_cons, List.all_nil, Bool.and_true, Bool.and_eq_true, Row.cells, Cm.L, Rq.L, Tp.L, Bat.L]; (repeat' constructor) <;> first | rfl | assumption | exact Rs.oneC (by first | assumption | exact SH.rsR H (by (repeat first | exact At.here | apply At.there); done) | exact SH.rsO H (by (repeat first | exact At.here | apply At.there); done) | exact (Rs.nil : Rs Non _ _ _)))))) (by rfl) rfl (by decide)
        try dsimp only [replC, List.cons_append, List.nil_append, List.append_nil, agg, cellsL, Value.cells, List.toList_toArray, List.set_cons_zero, List.set_cons_succ, spliceL, List.take_succ_cons, List.take_zero, List.drop_succ_cons, List.drop_zero, List.length_cons, List.length_nil, Nat.reduceAdd, Row.cells, Cm.L, Rq.L, Tp.L, Bat.L] at H
        first
          | refine s_append H rfl Try.underlying22 Try.underlying22 Try.type5 rfl (by simp only [upd_get, ev, Nat.reduceEqDiff, ↓reduceIte] <;> rfl) (by simp only [upd_get, ev, Nat.reduceEqDiff, ↓reduceIte] <;> rfl) (by (repeat first | exact At.here | apply At.there); done) (by first | assumption | exact SH.rsR H (by (repeat first | exact At.here | apply At.there); done) | exact SH.rsO H (by (repeat first | exact At.here | apply At.there); done) | exact (Rs.nil : Rs Non _ _ _)) (by rfl) (by rfl) (by show (_ + 1) * 1 ≤ _; rw [List.length_cons]; omega) (by show _ + 1 ≤ 9223372036854775807; rw [List.length_cons]; omega) ?_
          | refine s_appendNil H rfl Try.underlying22 Try.underlying22 Try.type5 rfl rfl (by simp only [upd_get, ev, Nat.reduceEqDiff, ↓reduceIte] <;> rfl) (by first | assumption | exact SH.rsR H (by (repeat first | exact At.here | apply At.there); done) | exact SH.rsO H (by (repeat first | exact At.here | apply At.there); done) | exact (Rs.nil : Rs Non _ _ _)) (by rfl) (by rfl) (by show (_ + 1) * 1 ≤ _; rw [List.length_cons]; omega) (by show _ + 1 ≤ 9223372036854775807; rw [List.length_cons]; omega) ?_
        clear H
        intro v12_6 w12_6 g12_6 H hN12_6
        try dsimp only [replC, List.cons_append, List.nil_append, List.append_nil] at H
        refine r_assign rfl ?_
        refine LW.nil ?_
        refine thenE_norm ?_
        refine cut (K := K16) [1, 4] (fun σ => ?_)
        simp only [setL, keepE, upd_get, ev, Nat.reduceEqDiff, ↓reduceIte]
        refine h16 _ _ ?_; clear h16; try clear K16
        refine CW.seq (fun K17 h17 => ?_)
        refine CW.seq (fun K18 h18 => ?_)
        refine CW.region ?_
        refine r_fieldAddrO rfl Try.underlying27 rfl Try.sizeOf25 (by decide) (show _ = 5 from rfl) rfl ?_
        refine r_load rfl Try.isAgg25 rfl (by first | exact SH.cellB H (by (repeat first | exact At.here | apply At.there); done) (by rfl) | assumption) ?_
        first
          | refine r_lenV rfl Try.underlying25 (by simp only [upd_get, ev, Nat.reduceEqDiff, ↓reduceIte] <;> rfl) (by first | assumption | exact SH.rsR H (by (repeat first | exact At.here | apply At.there); done) | exact SH.rsO H (by (repeat first | exact At.here | apply At.there); done) | exact (Rs.nil : Rs Non _ _ _)) ?_
          | refine r_len rfl Try.underlying25 rfl ?_
        refine r_move rfl ?_
        refine LW.nil ?_
        refine thenE_norm (h18 _ _ ?_); clear h18; try clear K18
        refine CW.block ?_
        refine CW.loopR [51, 52] [4, 53] (fun q vs w' => ∃ (i : Nat) (u : Value) (g : Option Nat), vs = [u, .int .i64 i] ∧ i ≤ rs.length ∧ q = rs.length - i ∧ SH Non Any w w' [.R (Old w) bq rs, .O 5 u (0 :: (numB [bv, tv, ts, bm] ++ (UInt8.ofNat rs.length :: rowB (rs.take i)))) g]) (rs.length) ?_ ?_
        · exact ⟨0, _, _, rfl, by omega, by omega, SH.sel H [0, 2] (by decide) rfl⟩
        try clear H
        rintro n2 vs2 wL2 σ ⟨i, u, g, rfl, hi, rfl, H⟩
        simp only [setL, keepE, upd_get, ev, Nat.reduceEqDiff, ↓reduceIte]
        refine CW.seq (fun K19 h19 => ?_)
        refine CW.region ?_
        refine r_lss rfl rfl rfl ?_
        refine LW.nil ?_
        refine thenE_norm (h19 _ _ ?_); clear h19; try clear K19
        refine CW.seq (fun K20 h20 => ?_)
        refine CW.cond rfl (fun hc4 => ?_) (fun hc4 => ?_)
        · try simp only [decide_eq_true_eq, decide_eq_false_iff_not, Bool.and_eq_true, Bool.or_eq_true, Bool.and_eq_false_iff, Bool.or_eq_false_iff, Bool.not_eq_true', Bool.not_eq_false', beq_iff_eq, bne_iff_ne, ne_eq, Decidable.not_not] at hc4
          refine CW.skip ?_
          refine thenE_norm (h20 _ _ ?_); clear h20; try clear K20
          refine CW.seq (fun K21 h21 => ?_)
          refine CW.block ?_
          refine CW.seq (fun K22 h22 => ?_)
          obtain ⟨x, hx⟩ := get_of_lt (show i < rs.length by omega)
          have hxs := hs x (List.mem_of_getElem? hx)
          have hxm := hgd x (List.mem_of_getElem? hx)
          have hxl := putRq_len x
          have hsn := rowB_snoc hx
          have hzl : (0 :: (numB [bv, tv, ts, bm] ++ (UInt8.ofNat rs.length :: rowB (rs.take i)))).length ≤ 200 := by
            have h1 := rowB_len (rs.take i)
            rw [List.length_take] at h1
            rw [List.length_cons, List.length_append, List.length_cons]
            omega
          have hsn2 : (0 :: (numB [bv, tv, ts, bm] ++ (UInt8.ofNat rs.length :: rowB (rs.take (i + 1))))) = (0 :: (numB [bv, tv, ts, bm] ++ (UInt8.ofNat rs.length :: rowB (rs.take i)))) ++ (putRq x).1 := by rw [hsn]; simp
          generalize (0 :: (numB [bv, tv, ts, bm] ++ (UInt8.ofNat rs.length :: rowB (rs.take i)))) = zs at *
          obtain ⟨x1, x2, x3, x4, x5⟩ := x
          dsimp only at hxs
          refine CW.region ?_
          refine r_indexAddrV rfl Try.underlying25 (by simp only [upd_get, ev, Nat.reduceEqDiff, ↓reduceIte] <;> rfl) rfl (by first | assumption | exact SH.rsR H (by (repeat first | exact At.here | apply At.there); done) | exact SH.rsO H (by (repeat first | exact At.here | apply At.there); done) | exact (Rs.nil : Rs Non _ _ _)) (by exact Try.sizeOf32) (by omega) (by omega) ?_
          refine r_loadA rfl Try.isAgg32 Try.sizeOf32 rfl (by first | exact Rs.cells0 (by first | assumption | exact SH.rsR H (by (repeat first | exact At.here | apply At.there); done) | exact SH.rsO H (by (repeat first | exact At.here | apply At.there); done) | exact (Rs.nil : Rs Non _ _ _)) (by assumption)) (by rfl) ?_
          refine s_alloc (cs := [.int .i64 0, .int .i64 0, .int .i64 0, .int .i64 0, .string (ByteArray.mk #[])]) H rfl Try.zeroValue32 rfl ?_
          clear H
          intro b15_2 w15_2 H
          try dsimp only [replC, List.cons_append, List.nil_append, List.append_nil, agg, cellsL, Value.cells, List.toList_toArray, List.set_cons_zero, List.set_cons_succ, spliceL, List.take_succ_cons, List.take_zero, List.drop_succ_cons, List.drop_zero, List.length_cons, List.length_nil, Nat.reduceAdd, Row.cells, Cm.L, Rq.L, Tp.L, Bat.L] at H
          refine s_storeA H Try.sizeOf32 rfl (by simp only [upd_get, ev, Nat.reduceEqDiff, ↓reduceIte] <;> rfl) (by simp only [cellsL, agg, List.toList_toArray, Row.cells, Cm.L, Rq.L, Tp.L, Bat.L] <;> rfl) (by rfl) (by first | rfl | assumption | exact Rs.oneC (by first | assumption | exact SH.rsR H (by (repeat first | exact At.here | apply At.there); done) | exact SH.rsO H (by (repeat first | exact At.here | apply At.there); done) | exact (Rs.nil : Rs Non _ _ _)) | (simp only [List.all_cons, List.all_nil, Bool.and_true, Bool.and_eq_true, Row.cells, Cm.L, Rq.L, Tp.L, Bat.L]; (repeat' constructor) <;> first | rfl | assumption | exact Rs.oneC (by first | assumption | exact SH.rsR H (by (repeat first | exact At.here | apply At.there); done) | exact SH.rsO H (by (repeat first | exact At.here | apply At.there); done) | exact (Rs.nil : Rs Non _ _ _)))) (by (repeat first | exact At.here | apply At.there); done) (by first | (simp; done) | decide | (show _ ≤ _; decide)) ?_
          clear H
          intro w15_3 H
          try dsimp only [replC, List.cons_append, List.nil_append, List.append_nil, agg, cellsL, Value.cells, List.toList_toArray, List.set_cons_zero, List.set_cons_succ, spliceL, List.take_succ_cons, List.take_zero, List.drop_succ_cons, List.drop_zero, List.length_cons, List.length_nil, Nat.reduceAdd, Row.cells, Cm.L, Rq.L, Tp.L, Bat.L] at H
          refine LW.nil ?_
          refine thenE_norm (h22 _ _ ?_); clear h22; try clear K22
          refine CW.seq (fun K23 h23 => ?_)
          refine CW.region ?_
          refine r_loadA rfl Try.isAgg32 Try.sizeOf32 rfl (by first | exact SH.cells H (by (repeat first | exact At.here | apply At.there); done)) (by rfl) ?_
          refine r_call rfl Try.call57 (by simp only [List.map_cons, List.map_nil, List.map_toArray, List.toList_toArray, upd_get, ev, Nat.reduceEqDiff, ↓reduceIte] <;> rfl) (PutRqS_c ⟨_, _, ⟨_, _, _⟩⟩ _ (by first | assumption | omega)) ?_
          rintro _ w16_1 ⟨v16_1, F16_1, rfl, K⟩
          refine ⟨_, rfl, ?_⟩
          replace H := SH.call H K
          clear K
          try dsimp only [replC, List.cons_append, List.nil_append, List.append_nil] at H
          refine r_move rfl ?_
          refine r_extract rfl (by simp only [upd_get, ev, Nat.reduceEqDiff, ↓reduceIte] <;> rfl) (by simp only [List.getElem?_toArray, List.getElem?_cons_zero, List.getElem?_cons_succ] <;> rfl) ?_
          refine r_extract rfl (by simp only [upd_get, ev, Nat.reduceEqDiff, ↓reduceIte] <;> rfl) (by simp only [List.getElem?_toArray, List.getElem?_cons_zero, List.getElem?_cons_succ] <;> rfl) ?_
          refine r_assign rfl ?_
          refine r_assign rfl ?_
          refine LW.nil ?_
          refine thenE_norm ?_
          refine cut (K := K23) [4, 11, 51, 52, 53] (fun σ => ?_)
          simp only [setL, keepE, upd_get, ev, Nat.reduceEqDiff, ↓reduceIte]
          refine h23 _ _ ?_; clear h23; try clear K23
          refine CW.region ?_
          refine r_move rfl ?_
          refine r_move rfl ?_
          refine s_append H rfl Try.underlying22 Try.underlying22 Try.type5 rfl (by simp only [upd_get, ev, Nat.reduceEqDiff, ↓reduceIte] <;> rfl) (by simp only [upd_get, ev, Nat.reduceEqDiff, ↓reduceIte] <;> rfl) (by (repeat first | exact At.here | apply At.there); done) (by first | assumption | exact SH.rsR H (by (repeat first | exact At.here | apply At.there); done) | exact SH.rsO H (by (repeat first | exact At.here | apply At.there); done) | exact (Rs.nil : Rs Non _ _ _)) (by rfl) (by rfl) (by show (_ + _) * 1 ≤ _; omega) (by show _ ≤ 9223372036854775807; omega) ?_
          clear H
          intro v17_2 w17_2 g17_2 H hN17_2
          try dsimp only [replC, List.cons_append, List.nil_append, List.append_nil] at H
          refine r_assign rfl ?_
          refine LW.nil ?_
          refine blockE_norm ?_
          refine thenE_norm (h21 _ _ ?_); clear h21; try clear K21
          refine CW.region ?_
          refine r_add rfl rfl rfl (wr_i64 (by omega) (by omega)) ?_
          refine r_move rfl ?_
          refine LW.nil ?_
          refine thenE_norm ⟨rfl, ?_⟩
          exact ⟨rs.length - (i + 1), by omega, i + 1, _, _, rfl, by omega, rfl, by rw [hsn2]; exact SH.sel H [0, 1] (by decide) rfl⟩
        · try simp only [decide_eq_true_eq, decide_eq_false_iff_not, Bool.and_eq_true, Bool.or_eq_true, Bool.and_eq_false_iff, Bool.or_eq_false_iff, Bool.not_eq_true', Bool.not_eq_false', beq_iff_eq, bne_iff_ne, ne_eq, Decidable.not_not] at hc4
          refine CW.exit (thenE_exit (thenE_exit (blockE_hit ?_)))
          refine thenE_norm (h17 _ _ ?_); clear h17; try clear K17
          refine CW.seq (fun K24 h24 => ?_)
          refine CW.region ?_
          refine r_move rfl ?_
          refine r_assign rfl ?_
          refine r_assign rfl ?_
          refine LW.nil ?_
          refine thenE_norm (h24 _ _ ?_); clear h24; try clear K24
          refine CW.ret (ret2 Try.results18 (by simp only [upd_get, ev, Nat.reduceEqDiff, ↓reduceIte]; rfl) (by simp only [upd_get, ev, Nat.reduceEqDiff, ↓reduceIte]; rfl) ?_)
          obtain rfl : i = rs.length := by omega
          rw [List.take_length] at H
          rw [putBat, if_pos hm, if_neg hf]
          exact ⟨_, _, rfl, SH.give H (by repeat first | exact List.Sublist.refl _ | exact List.nil_sublist _ | apply List.Sublist.cons_cons | apply List.Sublist.cons) ⟨trivial, trivial⟩⟩
set_option maxHeartbeats 16000000 in
theorem PutBatR_c {F : Nat → Prop} (b : Bat) {rs : List Rq} (w : World) (hv : Rs F w b.reqs rs) (hs : smallQ rs) :
    Calls Try.prog 42 #[agg b] w fun e w' => ∃ v g, e = .returned (.tuple #[v, .int .i64 (putBat b.fill b.view b.tip b.time rs).2]) ∧ SH Non Non w w' [.O 5 v (putBat b.fill b.view b.tip b.time rs).1 g] := by
  obtain ⟨bf, bv, ⟨tv, ts⟩, bm, bq⟩ := b
  dsimp only at hv ⊢
  have H := (SH.start w).arg hv
  have h63 := hv.len63
  refine calls_of_CW Try.func42 rfl Try.ntmps42 (Nat.le_of_ble_eq_true rfl) ?_
  simp only [argE, argFrom, Nat.reduceAdd]
  refine CW.seq (fun K1 h1 => ?_)
  refine CW.region ?_
  refine s_box H rfl (by simp only [upd_get, ev, Nat.reduceEqDiff, ↓reduceIte] <;> rfl) rfl ?_
  clear H
  intro b0_0 w0_0 H
  try dsimp only [replC, List.cons_append, List.nil_append, List.append_nil, agg, cellsL, Value.cells, List.toList_toArray, List.set_cons_zero, List.set_cons_succ, spliceL, List.take_succ_cons, List.take_zero, List.drop_succ_cons, List.drop_zero, List.length_cons, List.length_nil, Nat.reduceAdd, Row.cells, Cm.L, Rq.L, Tp.L, Bat.L] at H
  refine r_assign rfl ?_
  refine r_assign rfl ?_
  refine LW.nil ?_
  refine thenE_norm (h1 _ _ ?_); clear h1; try clear K1
  refine CW.seq (fun K2 h2 => ?_)
  refine CW.seq (fun K3 h3 => ?_)
  refine CW.region ?_
  refine r_loadA rfl Try.isAgg27 Try.sizeOf27 rfl (by first | exact SH.cells H (by (repeat first | exact At.here | apply At.there); done)) (by rfl) ?_
  refine r_call rfl Try.call45 (by simp only [List.map_cons, List.map_nil, List.map_toArray, List.toList_toArray, upd_get, ev, Nat.reduceEqDiff, ↓reduceIte] <;> rfl) (MayBatR_c ⟨_, _, ⟨_, _⟩, _, _⟩ _ (by first | assumption | exact SH.rsR H (by (repeat first | exact At.here | apply At.there); done) | exact SH.rsO H (by (repeat first | exact At.here | apply At.there); done) | exact (Rs.nil : Rs Non _ _ _))) ?_
  rintro _ w1_1 ⟨rfl, X⟩
  refine ⟨_, rfl, ?_⟩
  replace H := SH.same H X
  clear X
  refine r_not rfl rfl ?_
  refine LW.nil ?_
  refine thenE_norm (h3 _ _ ?_); clear h3; try clear K3
  refine CW.cond rfl (fun hc1 => ?_) (fun hc1 => ?_)
  · try simp only [decide_eq_true_eq, decide_eq_false_iff_not, Bool.and_eq_true, Bool.or_eq_true, Bool.and_eq_false_iff, Bool.or_eq_false_iff, Bool.not_eq_true', Bool.not_eq_false', beq_iff_eq, bne_iff_ne, ne_eq, Decidable.not_not] at hc1
    refine CW.seq (fun K4 h4 => ?_)
    refine CW.region ?_
    refine r_assign rfl ?_
    refine r_assign rfl ?_
    refine LW.nil ?_
    refine thenE_norm ?_
    refine cut (K := K4) [2, 3] (fun σ => ?_)
    simp only [setL, keepE, upd_get, ev, Nat.reduceEqDiff, ↓reduceIte]
    refine h4 _ _ ?_; clear h4; try clear K4
    refine CW.ret (thenE_ret (ret2 Try.results42 (by simp only [upd_get, ev, Nat.reduceEqDiff, ↓reduceIte]; rfl) (by simp only [upd_get, ev, Nat.reduceEqDiff, ↓reduceIte]; rfl) ?_))
    rw [putBat, if_neg (by simpa using hc1)]
    exact ⟨_, none, rfl, SH.give (H.addO (α := UInt8) 5) (by repeat first | exact List.Sublist.refl _ | exact List.nil_sublist _ | apply List.Sublist.cons_cons | apply List.Sublist.cons) ⟨trivial, trivial⟩⟩
  · try simp only [decide_eq_true_eq, decide_eq_false_iff_not, Bool.and_eq_true, Bool.or_eq_true, Bool.and_eq_false_iff, Bool.or_eq_false_iff, Bool.not_eq_true', Bool.not_eq_false', beq_iff_eq, bne_iff_ne, ne_eq, Decidable.not_not] at hc1
    have hm : mayBat bf bv ⟨tv, ts⟩ bm rs = true := by simpa using hc1
    refine CW.skip ?_
    refine thenE_norm (h2 _ _ ?_); clear h2; try clear K2
    refine CW.seq (fun K5 h5 => ?_)
    refine CW.seq (fun K6 h6 => ?_)
    refine CW.region ?_
    refine r_fieldAddrO rfl Try.underlying27 rfl Try.sizeOf4 (by decide) (show _ = 0 from rfl) rfl ?_
    refine r_load rfl Try.isAgg4 rfl (by first | exact SH.cellB H (by (repeat first | exact At.here | apply At.there); done) (by rfl) | assumption) ?_
    refine LW.nil ?_
    refine thenE_norm ?_
    refine cut (K := K6) [1, 12] (fun σ => ?_)
    simp only [setL, keepE, upd_get, ev, Nat.reduceEqDiff, ↓reduceIte]
    refine h6 _ _ ?_; clear h6; try clear K6
    refine CW.cond rfl (fun hc2 => ?_) (fun hc2 => ?_)
    · try simp only [decide_eq_true_eq, decide_eq_false_iff_not, Bool.and_eq_true, Bool.or_eq_true, Bool.and_eq_false_iff, Bool.or_eq_false_iff, Bool.not_eq_true', Bool.not_eq_false', beq_iff_eq, bne_iff_ne, ne_eq, Decidable.not_not] at hc2
      refine CW.seq (fun K7 h7 => ?_)
      refine CW.region ?_
      refine r_buildSlice rfl Try.underlying22 Try.sizeOf5 Try.zeroValue5 rfl rfl rfl (by simp only [List.map_cons, List.map_nil, List.toList_toArray, List.foldl_cons, List.foldl_nil, List.replicate_succ, List.replicate_zero, List.set_cons_zero, List.set_cons_succ, upd_get, ev, Nat.reduceEqDiff, ↓reduceIte] <;> rfl) ?_
      intro b4_0 w4_0 hb4_0 hs4_0 hE4_0 hB4_0
      replace H := SH.call H (SH.fromB hE4_0 hb4_0 hs4_0 hB4_0)
      clear hb4_0 hs4_0 hE4_0 hB4_0
      try dsimp only [replC, List.cons_append, List.nil_append, List.append_nil, agg, cellsL, Value.cells, List.toList_toArray, List.set_cons_zero, List.set_cons_succ, spliceL, List.take_succ_cons, List.take_zero, List.drop_succ_cons, List.drop_zero, List.length_cons, List.length_nil, Nat.reduceAdd, Row.cells, Cm.L, Rq.L, Tp.L, Bat.L] at H
      replace H := SH.row (b := b4_0) (xs := ([1] : List UInt8)) (n := 1) (cap := 1) H (by (repeat first | exact At.here | apply At.there); done) (by rfl) (by intro x hx; first | rfl | (simp at hx; done) | (simp only [List.mem_cons, List.not_mem_nil, or_false] at hx; rcases hx with rfl <;> first | rfl | exact (by first | rfl | assumption | exact Rs.oneC (by first | assumption | exact SH.rsR H (by (repeat first | exact At.here | apply At.there); done) | exact SH.rsO H (by (repeat first | exact At.here | apply At.there); done) | exact (Rs.nil : Rs Non _ _ _)) | (simp only [List.all_cons, List.all_nil, Bool.and_true, Bool.and_eq_true, Row.cells, Cm.L, Rq.L, Tp.L, Bat.L]; (repeat' constructor) <;> first | rfl | assumption | exact Rs.oneC (by first | assumption | exact SH.rsR H (by (repeat first | exact At.here | apply At.there); done) | exact SH.rsO H (by (repeat first | exact At.here | apply At.there); done) | exact (Rs.nil : Rs Non _ _ _)))))) (by rfl) rfl (by decide)
      try dsimp only [replC, List.cons_append, List.nil_append, List.append_nil, agg, cellsL, Value.cells, List.toList_toArray, List.set_cons_zero, List.set_cons_succ, spliceL, List.take_succ_cons, List.take_zero, List.drop_succ_cons, List.drop_zero, List.length_cons, List.length_nil, Nat.reduceAdd, Row.cells, Cm.L, Rq.L, Tp.L, Bat.L] at H
      refine r_assign rfl ?_
      refine r_assign rfl ?_
      refine LW.nil ?_
      refine thenE_norm (h7 _ _ ?_); clear h7; try clear K7
      refine CW.ret (thenE_ret (ret2 Try.results42 (by simp only [upd_get, ev, Nat.reduceEqDiff, ↓reduceIte]; rfl) (by simp only [upd_get, ev, Nat.reduceEqDiff, ↓reduceIte]; rfl) ?_))
      rw [putBat, if_pos hm, if_pos hc2]
      exact ⟨_, _, rfl, SH.give H (by repeat first | exact List.Sublist.refl _ | exact List.nil_sublist _ | apply List.Sublist.cons_cons | apply List.Sublist.cons) ⟨trivial, trivial⟩⟩
    · try simp only [decide_eq_true_eq, decide_eq_false_iff_not, Bool.and_eq_true, Bool.or_eq_true, Bool.and_eq_false_iff, Bool.or_eq_false_iff, Bool.not_eq_true', Bool.not_eq_false', beq_iff_eq, bne_iff_ne, ne_eq, Decidable.not_not] at hc2
      have hf : ¬ bf = true := by simpa using hc2
      obtain ⟨m1, m2, m3, m4, m5, m6⟩ := mayBat_no hm hf
      dsimp only at m3 m4
      refine CW.skip ?_
      refine thenE_norm (h5 _ _ ?_); clear h5; try clear K5
      refine CW.seq (fun K8 h8 => ?_)
      refine CW.region ?_
      refine r_buildSlice rfl Try.underlying22 Try.sizeOf5 Try.zeroValue5 rfl rfl rfl (by simp only [List.map_cons, List.map_nil, List.toList_toArray, List.foldl_cons, List.foldl_nil, List.replicate_succ, List.replicate_zero, List.set_cons_zero, List.set_cons_succ, upd_get, ev, Nat.reduceEqDiff, ↓reduceIte] <;> rfl) ?_
      intro b5_0 w5_0 hb5_0 hs5_0 hE5_0 hB5_0
      replace H := SH.call H (SH.fromB hE5_0 hb5_0 hs5_0 hB5_0)
      clear hb5_0 hs5_0 hE5_0 hB5_0
      try dsimp only [replC, List.cons_append, List.nil_append, List.append_nil, agg, cellsL, Value.cells, List.toList_toArray, List.set_cons_zero, List.set_cons_succ, spliceL, List.take_succ_cons, List.take_zero, List.drop_succ_cons, List.drop_zero, List.length_cons, List.length_nil, Nat.reduceAdd, Row.cells, Cm.L, Rq.L, Tp.L, Bat.L] at H
      replace H := SH.row (b := b5_0) (xs := ([0] : List UInt8)) (n := 1) (cap := 1) H (by (repeat first | exact At.here | apply At.there); done) (by rfl) (by intro x hx; first | rfl | (simp at hx; done) | (simp only [List.mem_cons, List.not_mem_nil, or_false] at hx; rcases hx with rfl <;> first | rfl | exact (by first | rfl | assumption | exact Rs.oneC (by first | assumption | exact SH.rsR H (by (repeat first | exact At.here | apply At.there); done) | exact SH.rsO H (by (repeat first | exact At.here | apply At.there); done) | exact (Rs.nil : Rs Non _ _ _)) | (simp only [List.all_cons, List.all_nil, Bool.and_true, Bool.and_eq_true, Row.cells, Cm.L, Rq.L, Tp.L, Bat.L]; (repeat' constructor) <;> first | rfl | assumption | exact Rs.oneC (by first | assumption | exact SH.rsR H (by (repeat first | exact At.here | apply At.there); done) | exact SH.rsO H (by (repeat first | exact At.here | apply At.there); done) | exact (Rs.nil : Rs Non _ _ _)))))) (by rfl) rfl (by decide)
      try dsimp only [replC, List.cons_append, List.nil_append, List.append_nil, agg, cellsL, Value.cells, List.toList_toArray, List.set_cons_zero, List.set_cons_succ, spliceL, List.take_succ_cons, List.take_zero, List.drop_succ_cons, List.drop_zero, List.length_cons, List.length_nil, Nat.reduceAdd, Row.cells, Cm.L, Rq.L, Tp.L, Bat.L] at H
      refine r_fieldAddrO rfl Try.underlying27 rfl Try.sizeOf3 (by decide) (show _ = 1 from rfl) rfl ?_
      refine r_load rfl Try.isAgg3 rfl (by first | exact SH.cellB H (by (repeat first | exact At.here | apply At.there); done) (by rfl) | assumption) ?_
      refine r_call rfl Try.call82 (by simp only [List.map_cons, List.map_nil, List.map_toArray, List.toList_toArray, upd_get, ev, Nat.reduceEqDiff, ↓reduceIte] <;> rfl) (EightS_c _ _ (by omega) (by omega)) ?_
      rintro _ w5_3 ⟨v5_3, F5_3, rfl, K⟩
      refine ⟨_, rfl, ?_⟩
      replace H := SH.call H K
      clear K
      try dsimp only [replC, List.cons_append, List.nil_append, List.append_nil] at H
      first
        | refine s_append H rfl Try.underlying22 Try.underlying22 Try.type5 rfl (by simp only [upd_get, ev, Nat.reduceEqDiff, ↓reduceIte] <;> rfl) (by simp only [upd_get, ev, Nat.reduceEqDiff, ↓reduceIte] <;> rfl) (by (repeat first | exact At.here | apply At.there); done) (by first | assumption | exact SH.rsR H (by (repeat first | exact At.here | apply At.there); done) | exact SH.rsO H (by (repeat first | exact At.here | apply At.there); done) | exact (Rs.nil : Rs Non _ _ _)) (by rfl) (by rfl) (by show (1 + _) * 1 ≤ _; rw [eight_len]; decide) (by show 1 + _ ≤ 9223372036854775807; rw [eight_len]; decide) ?_
        | refine s_appendNil H rfl Try.underlying22 Try.underlying22 Try.type5 rfl rfl (by simp only [upd_get, ev, Nat.reduceEqDiff, ↓reduceIte] <;> rfl) (by first | assumption | exact SH.rsR H (by (repeat first | exact At.here | apply At.there); done) | exact SH.rsO H (by (repeat first | exact At.here | apply At.there); done) | exact (Rs.nil : Rs Non _ _ _)) (by rfl) (by rfl) (by show (1 + _) * 1 ≤ _; rw [eight_len]; decide) (by show 1 + _ ≤ 9223372036854775807; rw [eight_len]; decide) ?_
      clear H
      intro v5_4 w5_4 g5_4 H hN5_4
      try dsimp only [replC, List.cons_append, List.nil_append, List.append_nil] at H
      refine r_assign rfl ?_
      refine LW.nil ?_
      refine thenE_norm (h8 _ _ ?_); clear h8; try clear K8
      refine CW.seqJ [1] [4] (fun vs w' => ∃ (u : Value) (g : Option Nat), vs = [u] ∧ SH Non Any w w' [.R (Old w) bq rs, .B b0_0 27 [.bool bf, .int .i64 bv, .int .i64 tv, .int .i64 ts, .int .i64 bm, bq], .O 5 u (0 :: numB [bv, tv, ts, bm]) g]) ?_ ?_
      · refine CW.drawP [0, 1] [] H (by dsimp only [pickC, nthC] <;> rfl) (by repeat first | exact List.Sublist.refl _ | exact List.nil_sublist _ | apply List.Sublist.cons_cons | apply List.Sublist.cons) (by kernel_rfl) rfl ?_
        clear H
        intro w6d H
        refine DL.take (i := 0) [] rfl (by kernel_rfl) (by kernel_rfl) (by kernel_rfl) (by kernel_rfl) rfl rfl (fun u H => x_move ) (SH.sub H (by repeat first | exact List.Sublist.refl _ | exact List.nil_sublist _ | apply List.Sublist.cons_cons | apply List.Sublist.cons)) ?_
        refine DL.take (i := 1) [] rfl (by kernel_rfl) (by kernel_rfl) (by kernel_rfl) (by kernel_rfl) rfl rfl (fun u H => x_fieldAddrO Try.underlying27 rfl Try.sizeOf24 (by decide) (show _ = 2 from rfl) rfl) (SH.sub H (by repeat first | exact List.Sublist.refl _ | exact List.nil_sublist _ | apply List.Sublist.cons_cons | apply List.Sublist.cons)) ?_
        refine DL.take (i := 2) [] rfl (by kernel_rfl) (by kernel_rfl) (by kernel_rfl) (by kernel_rfl) rfl rfl (fun u H => x_fieldAddrO Try.underlying24 rfl Try.sizeOf3 (by decide) (show _ = 2 from rfl) rfl) (SH.sub H (by repeat first | exact List.Sublist.refl _ | exact List.nil_sublist _ | apply List.Sublist.cons_cons | apply List.Sublist.cons)) ?_
        refine DL.take (i := 3) [] rfl (by kernel_rfl) (by kernel_rfl) (by kernel_rfl) (by kernel_rfl) rfl rfl (fun u H => x_load Try.isAgg3 rfl (by first | exact SH.cellB H (by (repeat first | exact At.here | apply At.there); done) (by rfl) | assumption)) (SH.sub H (by repeat first | exact List.Sublist.refl _ | exact List.nil_sublist _ | apply List.Sublist.cons_cons | apply List.Sublist.cons)) ?_
        refine DL.take (i := 6) [] rfl (by kernel_rfl) (by kernel_rfl) (by kernel_rfl) (by kernel_rfl) rfl rfl (fun u H => x_fieldAddrO Try.underlying27 rfl Try.sizeOf24 (by decide) (show _ = 2 from rfl) rfl) (SH.sub H (by repeat first | exact List.Sublist.refl _ | exact List.nil_sublist _ | apply List.Sublist.cons_cons | apply List.Sublist.cons)) ?_
        refine DL.take (i := 7) [] rfl (by kernel_rfl) (by kernel_rfl) (by kernel_rfl) (by kernel_rfl) rfl rfl (fun u H => x_fieldAddrO Try.underlying24 rfl Try.sizeOf3 (by decide) (show _ = 3 from rfl) rfl) (SH.sub H (by repeat first | exact List.Sublist.refl _ | exact List.nil_sublist _ | apply List.Sublist.cons_cons | apply List.Sublist.cons)) ?_
        refine DL.take (i := 8) [] rfl (by kernel_rfl) (by kernel_rfl) (by kernel_rfl) (by kernel_rfl) rfl rfl (fun u H => x_load Try.isAgg3 rfl (by first | exact SH.cellB H (by (repeat first | exact At.here | apply At.there); done) (by rfl) | assumption)) (SH.sub H (by repeat first | exact List.Sublist.refl _ | exact List.nil_sublist _ | apply List.Sublist.cons_cons | apply List.Sublist.cons)) ?_
        refine DL.take (i := 11) [] rfl (by kernel_rfl) (by kernel_rfl) (by kernel_rfl) (by kernel_rfl) rfl rfl (fun u H => x_fieldAddrO Try.underlying27 rfl Try.sizeOf3 (by decide) (show _ = 4 from rfl) rfl) (SH.sub H (by repeat first | exact List.Sublist.refl _ | exact List.nil_sublist _ | apply List.Sublist.cons_cons | apply List.Sublist.cons)) ?_
        refine DL.take (i := 12) [] rfl (by kernel_rfl) (by kernel_rfl) (by kernel_rfl) (by kernel_rfl) rfl rfl (fun u H => x_load Try.isAgg3 rfl (by first | exact SH.cellB H (by (repeat first | exact At.here | apply At.there); done) (by rfl) | assumption)) (SH.sub H (by repeat first | exact List.Sublist.refl _ | exact List.nil_sublist _ | apply List.Sublist.cons_cons | apply List.Sublist.cons)) ?_
        refine DL.one (i := 4) (by kernel_rfl) rfl rfl ?_
        refine r_call rfl Try.call82 (by simp only [List.map_cons, List.map_nil, List.map_toArray, List.toList_toArray, upd_get, ev, Nat.reduceEqDiff, ↓reduceIte] <;> rfl) (EightS_c _ _ (by omega) (by omega)) ?_
        rintro _ w6_4 ⟨v6_4, F6_4, rfl, K⟩
        refine ⟨_, rfl, ?_⟩
        replace H := SH.call H K
        clear K
        try dsimp only [replC, List.cons_append, List.nil_append, List.append_nil] at H
        refine LW.nil (thenE_norm ⟨fun _ => (SH.sub H (by repeat first | exact List.Sublist.refl _ | exact List.nil_sublist _ | apply List.Sublist.cons_cons | apply List.Sublist.cons)), ?_⟩)
        refine DL.one (i := 5) (by kernel_rfl) rfl rfl ?_
        first
          | refine s_append H rfl Try.underlying22 Try.underlying22 Try.type5 rfl (by simp only [upd_get, ev, Nat.reduceEqDiff, ↓reduceIte] <;> rfl) (by simp only [upd_get, ev, Nat.reduceEqDiff, ↓reduceIte] <;> rfl) (by (repeat first | exact At.here | apply At.there); done) (by first | assumption | exact SH.rsR H (by (repeat first | exact At.here | apply At.there); done) | exact SH.rsO H (by (repeat first | exact At.here | apply At.there); done) | exact (Rs.nil : Rs Non _ _ _)) (by rfl) (by rfl) (by show (_ + _) * 1 ≤ _; rw [List.length_cons, eight_len, eight_len]; decide) (by show _ ≤ 9223372036854775807; rw [List.length_cons, eight_len, eight_len]; decide) ?_
          | refine s_appendNil H rfl Try.underlying22 Try.underlying22 Try.type5 rfl rfl (by simp only [upd_get, ev, Nat.reduceEqDiff, ↓reduceIte] <;> rfl) (by first | assumption | exact SH.rsR H (by (repeat first | exact At.here | apply At.there); done) | exact SH.rsO H (by (repeat first | exact At.here | apply At.there); done) | exact (Rs.nil : Rs Non _ _ _)) (by rfl) (by rfl) (by show (_ + _) * 1 ≤ _; rw [List.length_cons, eight_len, eight_len]; decide) (by show _ ≤ 9223372036854775807; rw [List.length_cons, eight_len, eight_len]; decide) ?_
        clear H
        intro v6_5 w6_5 g6_5 H hN6_5
        try dsimp only [replC, List.cons_append, List.nil_append, List.append_nil] at H
        refine LW.nil (thenE_norm ⟨fun _ => (SH.sub H (by repeat first | exact List.Sublist.refl _ | exact List.nil_sublist _ | apply List.Sublist.cons_cons | apply List.Sublist.cons)), ?_⟩)
        refine DL.one (i := 9) (by kernel_rfl) rfl rfl ?_
        refine r_call rfl Try.call82 (by simp only [List.map_cons, List.map_nil, List.map_toArray, List.toList_toArray, upd_get, ev, Nat.reduceEqDiff, ↓reduceIte] <;> rfl) (EightS_c _ _ (by omega) (by omega)) ?_
        rintro _ w6_9 ⟨v6_9, F6_9, rfl, K⟩
        refine ⟨_, rfl, ?_⟩
        replace H := SH.call H K
        clear K
        try dsimp only [replC, List.cons_append, List.nil_append, List.append_nil] at H
        refine LW.nil (thenE_norm ⟨fun _ => (SH.sub H (by repeat first | exact List.Sublist.refl _ | exact List.nil_sublist _ | apply List.Sublist.cons_cons | apply List.Sublist.cons)), ?_⟩)
        refine DL.one (i := 10) (by kernel_rfl) rfl rfl ?_
        first
          | refine s_append H rfl Try.underlying22 Try.underlying22 Try.type5 rfl (by simp only [upd_get, ev, Nat.reduceEqDiff, ↓reduceIte] <;> rfl) (by simp only [upd_get, ev, Nat.reduceEqDiff, ↓reduceIte] <;> rfl) (by (repeat first | exact At.here | apply At.there); done) (by first | assumption | exact SH.rsR H (by (repeat first | exact At.here | apply At.there); done) | exact SH.rsO H (by (repeat first | exact At.here | apply At.there); done) | exact (Rs.nil : Rs Non _ _ _)) (by rfl) (by rfl) (by show (_ + _) * 1 ≤ _; rw [List.length_cons, List.length_append, eight_len, eight_len, eight_len]; decide) (by show _ ≤ 9223372036854775807; rw [List.length_cons, List.length_append, eight_len, eight_len, eight_len]; decide) ?_
          | refine s_appendNil H rfl Try.underlying22 Try.underlying22 Try.type5 rfl rfl (by simp only [upd_get, ev, Nat.reduceEqDiff, ↓reduceIte] <;> rfl) (by first | assumption | exact SH.rsR H (by (repeat first | exact At.here | apply At.there); done) | exact SH.rsO H (by (repeat first | exact At.here | apply At.there); done) | exact (Rs.nil : Rs Non _ _ _)) (by rfl) (by rfl) (by show (_ + _) * 1 ≤ _; rw [List.length_cons, List.length_append, eight_len, eight_len, eight_len]; decide) (by show _ ≤ 9223372036854775807; rw [List.length_cons, List.length_append, eight_len, eight_len, eight_len]; decide) ?_
        clear H
        intro v6_10 w6_10 g6_10 H hN6_10
        try dsimp only [replC, List.cons_append, List.nil_append, List.append_nil] at H
        refine LW.nil (thenE_norm ⟨fun _ => (SH.sub H (by repeat first | exact List.Sublist.refl _ | exact List.nil_sublist _ | apply List.Sublist.cons_cons | apply List.Sublist.cons)), ?_⟩)
        refine DL.one (i := 13) (by kernel_rfl) rfl rfl ?_
        refine r_call rfl Try.call82 (by simp only [List.map_cons, List.map_nil, List.map_toArray, List.toList_toArray, upd_get, ev, Nat.reduceEqDiff, ↓reduceIte] <;> rfl) (EightS_c _ _ (by omega) (by omega)) ?_
        rintro _ w6_13 ⟨v6_13, F6_13, rfl, K⟩
        refine ⟨_, rfl, ?_⟩
        replace H := SH.call H K
        clear K
        try dsimp only [replC, List.cons_append, List.nil_append, List.append_nil] at H
        refine LW.nil (thenE_norm ⟨fun _ => (SH.sub H (by repeat first | exact List.Sublist.refl _ | exact List.nil_sublist _ | apply List.Sublist.cons_cons | apply List.Sublist.cons)), ?_⟩)
        refine DL.one (i := 14) (by kernel_rfl) rfl rfl ?_
        first
          | refine s_append H rfl Try.underlying22 Try.underlying22 Try.type5 rfl (by simp only [upd_get, ev, Nat.reduceEqDiff, ↓reduceIte] <;> rfl) (by simp only [upd_get, ev, Nat.reduceEqDiff, ↓reduceIte] <;> rfl) (by (repeat first | exact At.here | apply At.there); done) (by first | assumption | exact SH.rsR H (by (repeat first | exact At.here | apply At.there); done) | exact SH.rsO H (by (repeat first | exact At.here | apply At.there); done) | exact (Rs.nil : Rs Non _ _ _)) (by rfl) (by rfl) (by show (_ + _) * 1 ≤ _; rw [List.length_cons, List.length_append, List.length_append, eight_len, eight_len, eight_len, eight_len]; decide) (by show _ ≤ 9223372036854775807; rw [List.length_cons, List.length_append, List.length_append, eight_len, eight_len, eight_len, eight_len]; decide) ?_
          | refine s_appendNil H rfl Try.underlying22 Try.underlying22 Try.type5 rfl rfl (by simp only [upd_get, ev, Nat.reduceEqDiff, ↓reduceIte] <;> rfl) (by first | assumption | exact SH.rsR H (by (repeat first | exact At.here | apply At.there); done) | exact SH.rsO H (by (repeat first | exact At.here | apply At.there); done) | exact (Rs.nil : Rs Non _ _ _)) (by rfl) (by rfl) (by show (_ + _) * 1 ≤ _; rw [List.length_cons, List.length_append, List.length_append, eight_len, eight_len, eight_len, eight_len]; decide) (by show _ ≤ 9223372036854775807; rw [List.length_cons, List.length_append, List.length_append, eight_len, eight_len, eight_len, eight_len]; decide) ?_
        clear H
        intro v6_14 w6_14 g6_14 H hN6_14
        try dsimp only [replC, List.cons_append, List.nil_append, List.append_nil] at H
        refine LW.nil (thenE_norm ⟨fun _ => (SH.sub H (by repeat first | exact List.Sublist.refl _ | exact List.nil_sublist _ | apply List.Sublist.cons_cons | apply List.Sublist.cons)), ?_⟩)
        refine DL.take (i := 15) [] rfl (by kernel_rfl) (by kernel_rfl) (by kernel_rfl) (by kernel_rfl) rfl rfl (fun u H => x_assign ) (SH.sub H (by repeat first | exact List.Sublist.refl _ | exact List.nil_sublist _ | apply List.Sublist.cons_cons | apply List.Sublist.cons)) ?_
        refine DL.done (by kernel_rfl) ?_
        refine thenE_norm ?_
        have hn4 : (0 :: (eight bv.toNat ++ eight tv.toNat ++ eight ts.toNat ++ eight bm.toNat) : List UInt8) = 0 :: numB [bv, tv, ts, bm] := by simp [numB]
        rw [hn4] at H
        exact ⟨rfl, _, _, rfl, by first | exact SH.sel H [0, 1, 2] (by decide) rfl | exact SH.sel H [0, 1, 3] (by decide) rfl | exact SH.sel H [0, 1, 4] (by decide) rfl⟩
      try clear H
      rintro vs wJ σ ⟨u, g, rfl, H⟩
      simp only [setL, keepE, upd_get, ev, Nat.reduceEqDiff, ↓reduceIte]
      refine CW.seq (fun K10 h10 => ?_)
      have hnl := numB_len [bv, tv, ts, bm]
      have hl4 : ([bv, tv, ts, bm] : List Int).length = 4 := rfl
      refine CW.region ?_
      refine r_move rfl ?_
      refine r_fieldAddrO rfl Try.underlying27 rfl Try.sizeOf25 (by decide) (show _ = 5 from rfl) rfl ?_
      refine r_load rfl Try.isAgg25 rfl (by first | exact SH.cellB H (by (repeat first | exact At.here | apply At.there); done) (by rfl) | assumption) ?_
      first
        | refine r_lenV rfl Try.underlying25 (by simp only [upd_get, ev, Nat.reduceEqDiff, ↓reduceIte] <;> rfl) (by first | assumption | exact SH.rsR H (by (repeat first | exact At.here | apply At.there); done) | exact SH.rsO H (by (repeat first | exact At.here | apply At.there); done) | exact (Rs.nil : Rs Non _ _ _)) ?_
        | refine r_len rfl Try.underlying25 rfl ?_
      refine r_convI rfl Try.underlying3 Try.underlying5 rfl (wr_u8 (by omega) (by omega)) ?_
      refine r_buildSlice rfl Try.underlying22 Try.sizeOf5 Try.zeroValue5 rfl rfl rfl (by simp only [List.map_cons, List.map_nil, List.toList_toArray, List.foldl_cons, List.foldl_nil, List.replicate_succ, List.replicate_zero, List.set_cons_zero, List.set_cons_succ, upd_get, ev, Nat.reduceEqDiff, ↓reduceIte] <;> rfl) ?_
      intro b7_5 w7_5 hb7_5 hs7_5 hE7_5 hB7_5
      replace H := SH.call H (SH.fromB hE7_5 hb7_5 hs7_5 hB7_5)
      clear hb7_5 hs7_5 hE7_5 hB7_5
      try dsimp only [replC, List.cons_append, List.nil_append, List.append_nil, agg, cellsL, Value.cells, List.toList_toArray, List.set_cons_zero, List.set_cons_succ, spliceL, List.take_succ_cons, List.take_zero, List.drop_succ_cons, List.drop_zero, List.length_cons, List.length_nil, Nat.reduceAdd, Row.cells, Cm.L, Rq.L, Tp.L, Bat.L] at H
      replace H := SH.row (b := b7_5) (xs := ([UInt8.ofNat ((rs.length : Nat) : Int).toNat] : List UInt8)) (n := 1) (cap := 1) H (by (repeat first | exact At.here | apply At.there); done) (by exact u8_row1 (by omega) (by omega)) (by intro x hx; first | rfl | (simp at hx; done) | (simp only [List.mem_cons, List.not_mem_nil, or_false] at hx; rcases hx with rfl <;> first | rfl | exact (by first | rfl | assumption | exact Rs.oneC (by first | assumption | exact SH.rsR H (by (repeat first | exact At.here | apply At.there); done) | exact SH.rsO H (by (repeat first | exact At.here | apply At.there); done) | exact (Rs.nil : Rs Non _ _ _)) | (simp only [List.all_cons, List.all_nil, Bool.and_true, Bool.and_eq_true, Row.cells, Cm.L, Rq.L, Tp.L, Bat.L]; (repeat' constructor) <;> first | rfl | assumption | exact Rs.oneC (by first | assumption | exact SH.rsR H (by (repeat first | exact At.here | apply At.there); done) | exact SH.rsO H (by (repeat first | exact At.here | apply At.there); done) | exact (Rs.nil : Rs Non _ _ _)))))) (by rfl) rfl (by decide)
      try dsimp only [replC, List.cons_append, List.nil_append, List.append_nil, agg, cellsL, Value.cells, List.toList_toArray, List.set_cons_zero, List.set_cons_succ, spliceL, List.take_succ_cons, List.take_zero, List.drop_succ_cons, List.drop_zero, List.length_cons, List.length_nil, Nat.reduceAdd, Row.cells, Cm.L, Rq.L, Tp.L, Bat.L] at H
      first
        | refine s_append H rfl Try.underlying22 Try.underlying22 Try.type5 rfl (by simp only [upd_get, ev, Nat.reduceEqDiff, ↓reduceIte] <;> rfl) (by simp only [upd_get, ev, Nat.reduceEqDiff, ↓reduceIte] <;> rfl) (by (repeat first | exact At.here | apply At.there); done) (by first | assumption | exact SH.rsR H (by (repeat first | exact At.here | apply At.there); done) | exact SH.rsO H (by (repeat first | exact At.here | apply At.there); done) | exact (Rs.nil : Rs Non _ _ _)) (by rfl) (by rfl) (by show (_ + 1) * 1 ≤ _; rw [List.length_cons]; omega) (by show _ + 1 ≤ 9223372036854775807; rw [List.length_cons]; omega) ?_
        | refine s_appendNil H rfl Try.underlying22 Try.underlying22 Try.type5 rfl rfl (by simp only [upd_get, ev, Nat.reduceEqDiff, ↓reduceIte] <;> rfl) (by first | assumption | exact SH.rsR H (by (repeat first | exact At.here | apply At.there); done) | exact SH.rsO H (by (repeat first | exact At.here | apply At.there); done) | exact (Rs.nil : Rs Non _ _ _)) (by rfl) (by rfl) (by show (_ + 1) * 1 ≤ _; rw [List.length_cons]; omega) (by show _ + 1 ≤ 9223372036854775807; rw [List.length_cons]; omega) ?_
      clear H
      intro v7_6 w7_6 g7_6 H hN7_6
      try dsimp only [replC, List.cons_append, List.nil_append, List.append_nil] at H
      refine r_assign rfl ?_
      refine LW.nil ?_
      refine thenE_norm ?_
      refine cut (K := K10) [1, 4] (fun σ => ?_)
      simp only [setL, keepE, upd_get, ev, Nat.reduceEqDiff, ↓reduceIte]
      refine h10 _ _ ?_; clear h10; try clear K10
      refine CW.seq (fun K11 h11 => ?_)
      refine CW.seq (fun K12 h12 => ?_)
      refine CW.region ?_
      refine r_assign rfl ?_
      refine LW.nil ?_
      refine thenE_norm (h12 _ _ ?_); clear h12; try clear K12
      refine CW.block ?_
      refine CW.loopR [1] [4, 5] (fun q vs w' => ∃ (i : Nat) (u : Value) (g : Option Nat), vs = [u, .int .i64 i] ∧ i ≤ rs.length ∧ q = rs.length - i ∧ SH Non Any w w' [.R (Old w) bq rs, .B b0_0 27 [.bool bf, .int .i64 bv, .int .i64 tv, .int .i64 ts, .int .i64 bm, bq], .O 5 u (0 :: (numB [bv, tv, ts, bm] ++ (UInt8.ofNat rs.length :: rowB (rs.take i)))) g]) (rs.length) ?_ ?_
      · exact ⟨0, _, _, rfl, by omega, by omega, SH.sel H [0, 1, 2] (by decide) rfl⟩
      try clear H
      rintro n1 vs1 wL1 σ ⟨i, u, g, rfl, hi, rfl, H⟩
      simp only [setL, keepE, upd_get, ev, Nat.reduceEqDiff, ↓reduceIte]
      refine CW.seq (fun K13 h13 => ?_)
      refine CW.seq (fun K14 h14 => ?_)
      refine CW.region ?_
      refine r_move rfl ?_
      refine r_fieldAddrO rfl Try.underlying27 rfl Try.sizeOf25 (by decide) (show _ = 5 from rfl) rfl ?_
      refine r_load rfl Try.isAgg25 rfl (by first | exact SH.cellB H (by (repeat first | exact At.here | apply At.there); done) (by rfl) | assumption) ?_
      first
        | refine r_lenV rfl Try.underlying25 (by simp only [upd_get, ev, Nat.reduceEqDiff, ↓reduceIte] <;> rfl) (by first | assumption | exact SH.rsR H (by (repeat first | exact At.here | apply At.there); done) | exact SH.rsO H (by (repeat first | exact At.here | apply At.there); done) | exact (Rs.nil : Rs Non _ _ _)) ?_
        | refine r_len rfl Try.underlying25 rfl ?_
      refine r_lss rfl rfl rfl ?_
      refine LW.nil ?_
      refine thenE_norm (h14 _ _ ?_); clear h14; try clear K14
      refine CW.cond rfl (fun hc3 => ?_) (fun hc3 => ?_)
      · try simp only [decide_eq_true_eq, decide_eq_false_iff_not, Bool.and_eq_true, Bool.or_eq_true, Bool.and_eq_false_iff, Bool.or_eq_false_iff, Bool.not_eq_true', Bool.not_eq_false', beq_iff_eq, bne_iff_ne, ne_eq, Decidable.not_not] at hc3
        refine CW.skip ?_
        refine thenE_norm (h13 _ _ ?_); clear h13; try clear K13
        refine CW.seq (fun K15 h15 => ?_)
        refine CW.block ?_
        refine CW.seq (fun K16 h16 => ?_)
        obtain ⟨x, hx⟩ := get_of_lt (show i < rs.length by omega)
        have hxs := hs x (List.mem_of_getElem? hx)
        have hxl := putRq_len x
        have hsn := rowB_snoc hx
        have hzl : (0 :: (numB [bv, tv, ts, bm] ++ (UInt8.ofNat rs.length :: rowB (rs.take i)))).length ≤ 200 := by
          have h1 := rowB_len (rs.take i)
          rw [List.length_take] at h1
          rw [List.length_cons, List.length_append, List.length_cons]
          omega
        have hsn2 : (0 :: (numB [bv, tv, ts, bm] ++ (UInt8.ofNat rs.length :: rowB (rs.take (i + 1))))) = (0 :: (numB [bv, tv, ts, bm] ++ (UInt8.ofNat rs.length :: rowB (rs.take i)))) ++ (putRq x).1 := by rw [hsn]; simp
        generalize (0 :: (numB [bv, tv, ts, bm] ++ (UInt8.ofNat rs.length :: rowB (rs.take i)))) = zs at *
        obtain ⟨x1, x2, x3, x4, x5⟩ := x
        dsimp only at hxs
        refine CW.region ?_
        refine r_fieldAddrO rfl Try.underlying27 rfl Try.sizeOf25 (by decide) (show _ = 5 from rfl) rfl ?_
        refine r_load rfl Try.isAgg25 rfl (by first | exact SH.cellB H (by (repeat first | exact At.here | apply At.there); done) (by rfl) | assumption) ?_
        refine r_move rfl ?_
        refine r_indexAddrV rfl Try.underlying25 (by simp only [upd_get, ev, Nat.reduceEqDiff, ↓reduceIte] <;> rfl) rfl (by first | assumption | exact SH.rsR H (by (repeat first | exact At.here | apply At.there); done) | exact SH.rsO H (by (repeat first | exact At.here | apply At.there); done) | exact (Rs.nil : Rs Non _ _ _)) (by exact Try.sizeOf32) (by omega) (by omega) ?_
        refine r_loadA rfl Try.isAgg32 Try.sizeOf32 rfl (by first | exact Rs.cells0 (by first | assumption | exact SH.rsR H (by (repeat first | exact At.here | apply At.there); done) | exact SH.rsO H (by (repeat first | exact At.here | apply At.there); done) | exact (Rs.nil : Rs Non _ _ _)) (by assumption)) (by rfl) ?_
        refine r_call rfl Try.call83 (by simp only [List.map_cons, List.map_nil, List.map_toArray, List.toList_toArray, upd_get, ev, Nat.reduceEqDiff, ↓reduceIte] <;> rfl) (PutRqRS_c ⟨_, _, ⟨_, _, _⟩⟩ _ (by first | assumption | omega)) ?_
        rintro _ w11_5 ⟨v11_5, F11_5, rfl, K⟩
        refine ⟨_, rfl, ?_⟩
        replace H := SH.call H K
        clear K
        try dsimp only [replC, List.cons_append, List.nil_append, List.append_nil] at H
        refine r_move rfl ?_
        refine r_extract rfl (by simp only [upd_get, ev, Nat.reduceEqDiff, ↓reduceIte] <;> rfl) (by simp only [List.getElem?_toArray, List.getElem?_cons_zero, List.getElem?_cons_succ] <;> rfl) ?_
        refine r_extract rfl (by simp only [upd_get, ev, Nat.reduceEqDiff, ↓reduceIte] <;> rfl) (by simp only [List.getElem?_toArray, List.getElem?_cons_zero, List.getElem?_cons_succ] <;> rfl) ?_
        refine r_assign rfl ?_
        refine r_assign rfl ?_
        refine LW.nil ?_
        refine thenE_norm ?_
        refine cut (K := K16) [1, 4, 5, 6] (fun σ => ?_)
        simp only [setL, keepE, upd_get, ev, Nat.reduceEqDiff, ↓reduceIte]
        refine h16 _ _ ?_; clear h16; try clear K16
        refine CW.region ?_
        refine r_move rfl ?_
        refine r_move rfl ?_
        refine s_append H rfl Try.underlying22 Try.underlying22 Try.type5 rfl (by simp only [upd_get, ev, Nat.reduceEqDiff, ↓reduceIte] <;> rfl) (by simp only [upd_get, ev, Nat.reduceEqDiff, ↓reduceIte] <;> rfl) (by (repeat first | exact At.here | apply At.there); done) (by first | assumption | exact SH.rsR H (by (repeat first | exact At.here | apply At.there); done) | exact SH.rsO H (by (repeat first | exact At.here | apply At.there); done) | exact (Rs.nil : Rs Non _ _ _)) (by rfl) (by rfl) (by show (_ + _) * 1 ≤ _; omega) (by show _ ≤ 9223372036854775807; omega) ?_
        clear H
        intro v12_2 w12_2 g12_2 H hN12_2
        try dsimp only [replC, List.cons_append, List.nil_append, List.append_nil] at H
        refine r_assign rfl ?_
        refine LW.nil ?_
        refine blockE_norm ?_
        refine thenE_norm (h15 _ _ ?_); clear h15; try clear K15
        refine CW.region ?_
        refine r_move rfl ?_
        refine r_add rfl rfl rfl (wr_i64 (by omega) (by omega)) ?_
        refine r_assign rfl ?_
        refine LW.nil ?_
        refine thenE_norm ⟨rfl, ?_⟩
        exact ⟨rs.length - (i + 1), by omega, i + 1, _, _, rfl, by omega, rfl, by rw [hsn2]; exact SH.sel H [0, 1, 2] (by decide) rfl⟩
      · try simp only [decide_eq_true_eq, decide_eq_false_iff_not, Bool.and_eq_true, Bool.or_eq_true, Bool.and_eq_false_iff, Bool.or_eq_false_iff, Bool.not_eq_true', Bool.not_eq_false', beq_iff_eq, bne_iff_ne, ne_eq, Decidable.not_not] at hc3
        refine CW.exit (thenE_exit (thenE_exit (blockE_hit ?_)))
        refine thenE_norm (h11 _ _ ?_); clear h11; try clear K11
        refine CW.seq (fun K17 h17 => ?_)
        refine CW.region ?_
        refine r_move rfl ?_
        refine r_assign rfl ?_
        refine r_assign rfl ?_
        refine LW.nil ?_
        refine thenE_norm ?_
        refine cut (K := K17) [2, 3] (fun σ => ?_)
        simp only [setL, keepE, upd_get, ev, Nat.reduceEqDiff, ↓reduceIte]
        refine h17 _ _ ?_; clear h17; try clear K17
        refine CW.ret (ret2 Try.results42 (by simp only [upd_get, ev, Nat.reduceEqDiff, ↓reduceIte]; rfl) (by simp only [upd_get, ev, Nat.reduceEqDiff, ↓reduceIte]; rfl) ?_)
        obtain rfl : i = rs.length := by omega
        rw [List.take_length] at H
        rw [putBat, if_pos hm, if_neg hf]
        exact ⟨_, _, rfl, SH.give H (by repeat first | exact List.Sublist.refl _ | exact List.nil_sublist _ | apply List.Sublist.cons_cons | apply List.Sublist.cons) ⟨trivial, trivial⟩⟩
end Go.Proofs.Ytalieccfdmokmaa
