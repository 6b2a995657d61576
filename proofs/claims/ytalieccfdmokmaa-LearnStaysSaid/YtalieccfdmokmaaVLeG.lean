/-
  The walks of layer 15's laws, the third part: LearnOrder.
-/
import Derived.Test.YtalieccfdmokmaaVLeE
import Derived.Test.YtalieccfdmokmaaVBnF
import Derived.Test.YtalieccfdmokmaaVArr
namespace Go.Proofs.Ytalieccfdmokmaa
set_option linter.unusedSimpArgs false
set_option linter.unusedVariables false
set_option maxRecDepth 20000
open Go.V Go.RowKit Go.ChangeShapes Go.WideShapes

/-- A batch, with who voted for it. -/
def heardB (b : Int) (x : Bat) (rs : List Rq) (frm : List Int) : Tm := ⟨b, x.fill, x.view, x.tip, x.time, rs, frm⟩
/-- What was heard of slot 1. -/
def heardO (b : Int) (x : Bat) (rs : List Rq) : List Int → List (Int × Tm)
  | [] => []
  | i :: r => [(1, heardB b x rs (i :: r))]
theorem heardO_look (b : Int) (x : Bat) (rs : List Rq) : ∀ frm : List Int, frm ≠ [] → lookM (heardO b x rs frm) 1 = some (heardB b x rs frm)
  | [], h => absurd rfl h
  | i :: r, _ => rfl
theorem heardO_put (b : Int) (x : Bat) (rs : List Rq) (t : Tm) : ∀ frm : List Int, setM (heardO b x rs frm) 1 t = [(1, t)]
  | [] => rfl
  | i :: r => rfl
theorem heardO_one (b : Int) (x : Bat) (rs : List Rq) {frm : List Int} (h : frm ≠ []) : heardO b x rs frm = [(1, heardB b x rs frm)] := by
  cases frm with
  | nil => exact absurd rfl h
  | cons i r => rfl
theorem putI_iff {l : List Int} {m j : Int} : j ∈ putK idK l m ↔ j = m ∨ j ∈ l := by
  constructor
  · exact putK_mem
  · rintro (rfl | h)
    · rw [putK]; simp
    · rw [putK, List.mem_append, List.mem_cons]
      rcases Int.lt_trichotomy j m with q | q | q
      · exact .inl (List.mem_filter.2 ⟨h, decide_eq_true q⟩)
      · exact .inr (.inl q)
      · exact .inr (.inr (List.mem_filter.2 ⟨h, decide_eq_true q⟩))
theorem putI_in {l : List Int} {i : Int} (h : UpK idK l) (hi : i ∈ l) : putK idK l i = l := by
  rcases findK_place (n := i) h with ⟨hin, y, hs, hc, hf⟩ | ⟨hin, hf, hno⟩
  · exact insF_same (t := ⟨0, false, 0, ⟨0, 0⟩, 0, [], l⟩) h hs hc
  · exact absurd rfl (hno i hi)
theorem putI_new {l : List Int} {i : Int} (h : UpK idK l) (hi : i ∉ l) : (putK idK l i).length = l.length + 1 := by
  rw [putK_out (m := i) h (fun y hy e => hi (by have : y = i := e; rw [← this]; exact hy))]
  have := atK_le idK l i
  simp only [List.length_append, List.length_take, List.length_drop, List.length_singleton]
  have e : idK i = i := rfl
  rw [e]
  omega
theorem chO (k b : Int) (x : Bat) (rs : List Rq) (hk : 1 ≤ k) (frm : List Int) : chosenT k (lookM (heardO b x rs frm) 1) = decide (k / 2 + 1 ≤ (frm.length : Int)) := by
  cases frm with
  | nil =>
    refine (decide_eq_false ?_).symm
    simp only [List.length_nil]; omega
  | cons i r => rfl
theorem order_hear {k b i : Int} {x : Bat} {rs : List Rq} {frm : List Int} (hk : 1 ≤ k) (hi : 0 ≤ i ∧ i < k) (hb : 0 ≤ b ∧ b ≤ 65535) (hm : mayBat x.fill x.view x.tip x.time rs = true) :
    hearM ⟨k, 0, heardO b x rs frm⟩ i b 1 x rs = if k / 2 + 1 ≤ (frm.length : Int) then (⟨k, 0, heardO b x rs frm⟩, 11) else (⟨k, 0, heardO b x rs (putK idK frm i)⟩, 0) := by
  have ha : askL ⟨k, 0, heardO b x rs frm⟩ i b 1 x rs := ⟨hi, highM_t.2 ⟨hb.1, by omega⟩, ⟨by decide, by decide⟩, hm⟩
  by_cases hq : k / 2 + 1 ≤ (frm.length : Int)
  · rw [if_pos hq]
    exact hear_done ha (.inr (by dsimp only; rw [chO k b x rs hk]; exact decide_eq_true hq))
  · rw [if_neg hq]
    have hold : ¬ oldT (lookM (heardO b x rs frm) 1) b = true := by
      cases frm with
      | nil => exact Bool.false_ne_true
      | cons j r =>
        show ¬ decide (b < b) = true
        simp
    have hne : putK idK frm i ≠ [] := putK_ne
    rw [hear_put ha (by
      rintro (q | q)
      · dsimp only at q; omega
      · dsimp only at q
        rw [chO k b x rs hk] at q
        exact hq (of_decide_eq_true q)) (by dsimp only; omega) hold]
    dsimp only
    rw [heardO_put, heardO_one b x rs hne]
    cases frm with
    | nil => rfl
    | cons j r =>
      show (_, _) = (_, _)
      have : baseT (lookM (heardO b x rs (j :: r)) 1) b x rs = heardB b x rs (j :: r) := by
        show (if b < b then _ else _) = _
        rw [if_neg (by omega)]
      rw [this]
      rfl
theorem marks_set {cs : List Bool} {frm : List Int} {i : Int} (h0 : 0 ≤ i) (hl : cs.length = 7) (hi : i < 7) (h : ∀ j : Nat, j < 7 → cs[j]? = some (decide ((j : Int) ∈ frm))) : ∀ j : Nat, j < 7 → (cs.set i.toNat true)[j]? = some (decide ((j : Int) ∈ putK idK frm i)) := fun j hj => by
  rw [List.getElem?_set]
  by_cases hq : i.toNat = j
  · rw [if_pos hq, if_pos (by omega)]
    rw [decide_eq_true (putI_iff.2 (.inl (by omega)))]
  · rw [if_neg hq, h j hj]
    congr 1
    refine decide_eq_decide.2 ⟨fun q => putI_iff.2 (.inr q), fun q => (putI_iff.1 q).elim (fun e => absurd e (by omega)) id⟩
set_option maxHeartbeats 16000000 in
theorem LearnOrder_c {F F2 : Nat → Prop} {v1 v2 : Value} {os ns : List UInt8} (n b : Int) (w : World) (ho : Rs F w v1 os) (hn : Rs F2 w v2 ns) (hl : ns.length ≤ 140737488355328) (n0 : 0 ≤ n) (n1 : n < 256) (b0 : 0 ≤ b) (b1 : b < 65536) :
    Calls Try.prog 4 #[.int .u8 n, v1, v2, .int .u16 b] w fun e w' => e = .returned (.bool true) ∧ Ext0 w w' := by
  have H := ((SH.start w).arg ho).arg hn
  have h63 := ho.len63
  have hm0 := Int.emod_nonneg n (show (4 : Int) ≠ 0 from by decide)
  have hm1 := Int.emod_lt_of_pos n (show (0 : Int) < 4 from by decide)
  obtain ⟨k, hk, hk4⟩ : ∃ k : Int, ([1, 3, 5, 7] : List Int)[(n % 4).toNat]? = some k ∧ (k = 1 ∨ k = 3 ∨ k = 5 ∨ k = 7) := by
    have h4 : n % 4 = 0 ∨ n % 4 = 1 ∨ n % 4 = 2 ∨ n % 4 = 3 := by omega
    rcases h4 with h | h | h | h <;> rw [h]
    · exact ⟨1, rfl, .inl rfl⟩
    · exact ⟨3, rfl, .inr (.inl rfl)⟩
    · exact ⟨5, rfl, .inr (.inr (.inl rfl))⟩
    · exact ⟨7, rfl, .inr (.inr (.inr rfl))⟩
  refine calls_of_CW Try.func4 rfl Try.ntmps4 (Nat.le_of_ble_eq_true rfl) ?_
  simp only [argE, argFrom, Nat.reduceAdd]
  refine CW.seq (fun K1 h1 => ?_)
  refine CW.region ?_
  refine r_assign rfl ?_
  refine LW.nil ?_
  refine thenE_norm (h1 _ _ ?_); clear h1; try clear K1
  refine CW.seq (fun K2 h2 => ?_)
  refine CW.region ?_
  refine r_buildSlice rfl Try.underlying41 Try.sizeOf3 Try.zeroValue3 rfl rfl rfl (by simp only [List.map_cons, List.map_nil, List.toList_toArray, List.foldl_cons, List.foldl_nil, List.replicate_succ, List.replicate_zero, List.set_cons_zero, List.set_cons_succ, upd_get, ev, Nat.reduceEqDiff, ↓reduceIte] <;> rfl) ?_
  intro b1_0 w1_0 hb1_0 hs1_0 hE1_0 hB1_0
  replace H := SH.call H (SH.fromB hE1_0 hb1_0 hs1_0 hB1_0)
  clear hb1_0 hs1_0 hE1_0 hB1_0
  try dsimp only [replC, List.cons_append, List.nil_append, List.append_nil, agg, cellsL, Value.cells, List.toList_toArray, List.set_cons_zero, List.set_cons_succ, spliceL, List.take_succ_cons, List.take_zero, List.drop_succ_cons, List.drop_zero, List.length_cons, List.length_nil, Nat.reduceAdd, Row.cells, Cm.L, Rq.L, Tp.L, Bat.L, Ty.L] at H
  replace H := SH.row (b := b1_0) (xs := ([1, 3, 5, 7] : List Int)) (n := 4) (cap := 4) H (by (repeat first | exact At.here | apply At.there); done) (by rfl) (by intro x hx; first | rfl | (simp at hx; done) | (simp only [List.mem_cons, List.not_mem_nil, or_false] at hx; rcases hx with rfl | rfl | rfl | rfl <;> first | rfl | exact (by first | rfl | assumption | exact Rs.oneC (by first | assumption | exact SH.rsR H (by (repeat first | exact At.here | apply At.there); done) | exact SH.rsO H (by (repeat first | exact At.here | apply At.there); done) | exact (Rs.nil : Rs Non _ _ _)) | (simp only [List.all_cons, List.all_nil, Bool.and_true, Bool.and_eq_true, Row.cells, Cm.L, Rq.L, Tp.L, Bat.L, Ty.L]; (repeat' constructor) <;> first | rfl | assumption | exact Rs.oneC (by first | assumption | exact SH.rsR H (by (repeat first | exact At.here | apply At.there); done) | exact SH.rsO H (by (repeat first | exact At.here | apply At.there); done) | exact (Rs.nil : Rs Non _ _ _)))))) (by rfl) rfl (by decide)
  try dsimp only [replC, List.cons_append, List.nil_append, List.append_nil, agg, cellsL, Value.cells, List.toList_toArray, List.set_cons_zero, List.set_cons_succ, spliceL, List.take_succ_cons, List.take_zero, List.drop_succ_cons, List.drop_zero, List.length_cons, List.length_nil, Nat.reduceAdd, Row.cells, Cm.L, Rq.L, Tp.L, Bat.L, Ty.L] at H
  refine r_move rfl ?_
  refine r_rem rfl rfl rfl (by omega) (by omega) (wr_u8 (by omega) (by omega)) ?_
  refine r_indexAddrV rfl Try.underlying41 (by simp only [upd_get, ev, Nat.reduceEqDiff, ↓reduceIte] <;> rfl) rfl (by first | assumption | exact SH.rsR H (by (repeat first | exact At.here | apply At.there); done) | exact SH.rsO H (by (repeat first | exact At.here | apply At.there); done) | exact (Rs.nil : Rs Non _ _ _)) (by exact Try.sizeOf3) (by omega) (by show n % 4 < 4; omega) ?_
  refine r_load rfl Try.isAgg3 rfl (by first | exact Rs.cell (by first | assumption | exact SH.rsR H (by (repeat first | exact At.here | apply At.there); done) | exact SH.rsO H (by (repeat first | exact At.here | apply At.there); done) | exact (Rs.nil : Rs Non _ _ _)) (by assumption) (by rfl) | exact Rs.cell0 (by first | assumption | exact SH.rsR H (by (repeat first | exact At.here | apply At.there); done) | exact SH.rsO H (by (repeat first | exact At.here | apply At.there); done) | exact (Rs.nil : Rs Non _ _ _)) (by assumption) (by rfl) | assumption) ?_
  refine r_assign rfl ?_
  refine LW.nil ?_
  refine thenE_norm (h2 _ _ ?_); clear h2; try clear K2
  refine CW.seq (fun K3 h3 => ?_)
  refine CW.region ?_
  refine r_move rfl ?_
  refine r_call rfl Try.call21 (by simp only [List.map_cons, List.map_nil, List.map_toArray, List.toList_toArray, upd_get, ev, Nat.reduceEqDiff, ↓reduceIte] <;> rfl) (LrnNew_c k _ (by omega)) ?_
  rintro _ w2_1 ⟨p, FN, rfl, K⟩
  refine ⟨_, rfl, ?_⟩
  replace H := SH.call H K
  clear K
  try dsimp only [replC, List.cons_append, List.nil_append, List.append_nil] at H
  refine r_assign rfl ?_
  refine LW.nil ?_
  refine thenE_norm ?_
  refine cut (K := K3) [1, 2, 3, 9, 10] (fun σ => ?_)
  simp only [setL, keepE, upd_get, ev, Nat.reduceEqDiff, ↓reduceIte]
  refine h3 _ _ ?_; clear h3; try clear K3
  refine CW.seq (fun K4 h4 => ?_)
  refine CW.seq (fun K5 h5 => ?_)
  refine CW.region ?_
  refine r_move rfl ?_
  refine r_eqlP rfl Try.underlying42 rfl rfl ?_
  refine r_move rfl ?_
  refine LW.known (t := 28) (c := false) rfl (by first | rfl | (simp only [decide_eq_true_eq, decide_eq_false_iff_not, Bool.and_eq_true, Bool.or_eq_true, Bool.and_eq_false_iff, Bool.or_eq_false_iff, Bool.not_eq_true', Bool.not_eq_false', beq_iff_eq, bne_iff_ne]; omega) | simp_all) (fun hg3_3 => ?_)
  refine LW.want rfl rfl hg3_3 ?_
  refine r_move rfl ?_
  refine LW.want rfl rfl hg3_3 ?_
  first
    | refine r_lenV rfl Try.underlying22 (by simp only [upd_get, ev, Nat.reduceEqDiff, ↓reduceIte] <;> rfl) (by first | assumption | exact SH.rsR H (by (repeat first | exact At.here | apply At.there); done) | exact SH.rsO H (by (repeat first | exact At.here | apply At.there); done) | exact (Rs.nil : Rs Non _ _ _)) ?_
    | refine r_len rfl Try.underlying22 rfl ?_
  refine LW.want rfl rfl hg3_3 ?_
  refine r_gtr rfl rfl rfl ?_
  refine r_pickF rfl rfl hg3_3 ?_
  refine LW.nil ?_
  refine thenE_norm ?_
  refine cut (K := K5) [1, 2, 3, 9, 10, 32] (fun σ => ?_)
  simp only [setL, keepE, upd_get, ev, Nat.reduceEqDiff, ↓reduceIte]
  refine h5 _ _ ?_; clear h5; try clear K5
  refine CW.cond rfl (fun hc1 => ?_) (fun hc1 => ?_)
  · try simp only [decide_eq_true_eq, decide_eq_false_iff_not, Bool.and_eq_true, Bool.or_eq_true, Bool.and_eq_false_iff, Bool.or_eq_false_iff, Bool.not_eq_true', Bool.not_eq_false', beq_iff_eq, bne_iff_ne, ne_eq, Decidable.not_not] at hc1
    refine CW.seq (fun K6 h6 => ?_)
    refine CW.region ?_
    refine r_move rfl ?_
    refine r_neqP rfl Try.underlying42 rfl rfl ?_
    refine r_move rfl ?_
    refine LW.known (t := 35) (c := true) rfl (by first | rfl | (simp only [decide_eq_true_eq, decide_eq_false_iff_not, Bool.and_eq_true, Bool.or_eq_true, Bool.and_eq_false_iff, Bool.or_eq_false_iff, Bool.not_eq_true', Bool.not_eq_false', beq_iff_eq, bne_iff_ne]; omega) | simp_all) (fun hg4_3 => ?_)
    refine LW.want rfl rfl hg4_3 ?_
    refine r_call rfl Try.call22 (by simp only [List.map_cons, List.map_nil, List.map_toArray, List.toList_toArray, upd_get, ev, Nat.reduceEqDiff, ↓reduceIte] <;> rfl) (awake15_c _) ?_
    rintro _ w4_3 ⟨rfl, X⟩
    refine ⟨_, rfl, ?_⟩
    replace H := SH.same H X
    clear X
    refine r_pickT rfl rfl hg4_3 ?_
    refine r_assign rfl ?_
    refine LW.nil ?_
    refine thenE_norm (h6 _ _ ?_); clear h6; try clear K6
    refine CW.ret (thenE_ret (ret1 Try.results4 (by simp only [upd_get, ev, Nat.reduceEqDiff, ↓reduceIte]; rfl) ?_))
    exact ⟨rfl, H.ext⟩
  · try simp only [decide_eq_true_eq, decide_eq_false_iff_not, Bool.and_eq_true, Bool.or_eq_true, Bool.and_eq_false_iff, Bool.or_eq_false_iff, Bool.not_eq_true', Bool.not_eq_false', beq_iff_eq, bne_iff_ne, ne_eq, Decidable.not_not] at hc1
    refine CW.skip ?_
    refine thenE_norm (h4 _ _ ?_); clear h4; try clear K4
    refine CW.seq (fun K7 h7 => ?_)
    refine CW.region ?_
    refine r_move rfl ?_
    refine r_call rfl Try.call16 (by simp only [List.map_cons, List.map_nil, List.map_toArray, List.toList_toArray, upd_get, ev, Nat.reduceEqDiff, ↓reduceIte] <;> rfl) (BatchN_c _ (SH.rsR H (i := 1) rfl) hl) ?_
    rintro _ w5_1 ⟨v5_1, g5_1, rfl, hm5_1, hs5_1, K⟩
    refine ⟨_, rfl, ?_⟩
    replace H := SH.call H K
    clear K
    try dsimp only [replC, List.cons_append, List.nil_append, List.append_nil] at H
    refine s_alloc (cs := [.bool false, .int .i64 0, .int .i64 0, .int .i64 0, .int .i64 0, .slice none 0 0]) H rfl Try.zeroValue27 rfl ?_
    clear H
    intro b5_2 w5_2 H
    try dsimp only [replC, List.cons_append, List.nil_append, List.append_nil, agg, cellsL, Value.cells, List.toList_toArray, List.set_cons_zero, List.set_cons_succ, spliceL, List.take_succ_cons, List.take_zero, List.drop_succ_cons, List.drop_zero, List.length_cons, List.length_nil, Nat.reduceAdd, Row.cells, Cm.L, Rq.L, Tp.L, Bat.L, Ty.L] at H
    refine s_storeA H Try.sizeOf27 rfl (by simp only [upd_get, ev, Nat.reduceEqDiff, ↓reduceIte] <;> rfl) (by simp only [cellsL, agg, List.toList_toArray, Row.cells, Cm.L, Rq.L, Tp.L, Bat.L, Ty.L] <;> rfl) (by rfl) (by first | rfl | assumption | exact Rs.oneC (by first | assumption | exact SH.rsR H (by (repeat first | exact At.here | apply At.there); done) | exact SH.rsO H (by (repeat first | exact At.here | apply At.there); done) | exact (Rs.nil : Rs Non _ _ _)) | (simp only [List.all_cons, List.all_nil, Bool.and_true, Bool.and_eq_true, Row.cells, Cm.L, Rq.L, Tp.L, Bat.L, Ty.L]; (repeat' constructor) <;> first | rfl | assumption | exact Rs.oneC (by first | assumption | exact SH.rsR H (by (repeat first | exact At.here | apply At.there); done) | exact SH.rsO H (by (repeat first | exact At.here | apply At.there); done) | exact (Rs.nil : Rs Non _ _ _)))) (by (repeat first | exact At.here | apply At.there); done) (by first | (simp; done) | decide | (show _ ≤ _; decide)) ?_
    clear H
    intro w5_3 H
    try dsimp only [replC, List.cons_append, List.nil_append, List.append_nil, agg, cellsL, Value.cells, List.toList_toArray, List.set_cons_zero, List.set_cons_succ, spliceL, List.take_succ_cons, List.take_zero, List.drop_succ_cons, List.drop_zero, List.length_cons, List.length_nil, Nat.reduceAdd, Row.cells, Cm.L, Rq.L, Tp.L, Bat.L, Ty.L] at H
    refine LW.nil ?_
    refine thenE_norm (h7 _ _ ?_); clear h7; try clear K7
    refine CW.seq (fun K8 h8 => ?_)
    refine CW.region ?_
    refine s_alloc (cs := [.bool false, .bool false, .bool false, .bool false, .bool false, .bool false, .bool false]) H rfl Try.zeroValue44 rfl ?_
    clear H
    intro b6_0 w6_0 H
    try dsimp only [replC, List.cons_append, List.nil_append, List.append_nil, agg, cellsL, Value.cells, List.toList_toArray, List.set_cons_zero, List.set_cons_succ, spliceL, List.take_succ_cons, List.take_zero, List.drop_succ_cons, List.drop_zero, List.length_cons, List.length_nil, Nat.reduceAdd, Row.cells, Cm.L, Rq.L, Tp.L, Bat.L, Ty.L] at H
    refine LW.nil ?_
    refine thenE_norm (h8 _ _ ?_); clear h8; try clear K8
    refine CW.seq (fun K9 h9 => ?_)
    refine CW.region ?_
    refine r_assign rfl ?_
    refine LW.nil ?_
    refine thenE_norm (h9 _ _ ?_); clear h9; try clear K9
    refine CW.seq (fun K10 h10 => ?_)
    refine CW.seq (fun K11 h11 => ?_)
    refine CW.region ?_
    refine r_assign rfl ?_
    refine LW.nil ?_
    refine thenE_norm (h11 _ _ ?_); clear h11; try clear K11
    refine CW.block ?_
    refine CW.loopR [1, 3, 9, 10, 11, 12] [13, 14] (fun m vs w' => ∃ (i : Nat) (frm : List Int) (cs : List Bool) (FN : Nat → Prop), vs = [.int .i64 frm.length, .int .i64 i] ∧ i ≤ os.length ∧ m = os.length - i ∧ (UpK idK frm ∧ (∀ x ∈ frm, 0 ≤ x ∧ x < k) ∧ cs.length = 7 ∧ ∀ j : Nat, j < 7 → cs[j]? = some (decide ((j : Int) ∈ frm))) ∧
SH Non Any w w' [.R (Old w) v1 os, .P FN (LrnA p ⟨k, 0, heardO b ⟨(batN ns).fill, (batN ns).view, ⟨(batN ns).tip.view, (batN ns).tip.slot⟩, (batN ns).time, v5_1⟩ (batN ns).rs frm⟩ FN), .O 32 v5_1 (batN ns).rs g5_1, .B b5_2 27 [.bool (batN ns).fill, .int .i64 (batN ns).view, .int .i64 (batN ns).tip.view, .int .i64 (batN ns).tip.slot, .int .i64 (batN ns).time, v5_1], .B b6_0 44 (cs.map Value.bool)]) (os.length) ?_ ?_
    · exact ⟨0, [], [false, false, false, false, false, false, false], FN, rfl, by omega, by omega, ⟨UpK.nil, fun x hx => (by cases hx), rfl, fun j hj => by
        have : j = 0 ∨ j = 1 ∨ j = 2 ∨ j = 3 ∨ j = 4 ∨ j = 5 ∨ j = 6 := by omega
        rcases this with rfl | rfl | rfl | rfl | rfl | rfl | rfl <;> rfl⟩, SH.sel H [0, 3, 4, 5, 6] (by decide) rfl⟩
    try clear H
    rintro n1 vs1 wL1 σ ⟨i, frm, cs, FN, rfl, hi, rfl, ⟨hup, hin, hcl, hcs⟩, H⟩
    simp only [setL, keepE, upd_get, ev, Nat.reduceEqDiff, ↓reduceIte]
    refine CW.seq (fun K12 h12 => ?_)
    refine CW.seq (fun K13 h13 => ?_)
    refine CW.region ?_
    refine r_move rfl ?_
    refine r_move rfl ?_
    first
      | refine r_lenV rfl Try.underlying22 (by simp only [upd_get, ev, Nat.reduceEqDiff, ↓reduceIte] <;> rfl) (by first | assumption | exact SH.rsR H (by (repeat first | exact At.here | apply At.there); done) | exact SH.rsO H (by (repeat first | exact At.here | apply At.there); done) | exact (Rs.nil : Rs Non _ _ _)) ?_
      | refine r_len rfl Try.underlying22 rfl ?_
    refine r_lss rfl rfl rfl ?_
    refine LW.nil ?_
    refine thenE_norm (h13 _ _ ?_); clear h13; try clear K13
    refine CW.cond rfl (fun hc2 => ?_) (fun hc2 => ?_)
    · try simp only [decide_eq_true_eq, decide_eq_false_iff_not, Bool.and_eq_true, Bool.or_eq_true, Bool.and_eq_false_iff, Bool.or_eq_false_iff, Bool.not_eq_true', Bool.not_eq_false', beq_iff_eq, bne_iff_ne, ne_eq, Decidable.not_not] at hc2
      refine CW.skip ?_
      refine thenE_norm (h12 _ _ ?_); clear h12; try clear K12
      refine CW.seq (fun K14 h14 => ?_)
      refine CW.block ?_
      refine CW.seq (fun K15 h15 => ?_)
      obtain ⟨x, hx⟩ := get_of_lt (show i < os.length by omega)
      have hxl := x.toNat_lt
      have hq0 := Int.emod_nonneg (x.toNat : Int) (show k ≠ 0 by omega)
      have hq1 := Int.emod_lt_of_pos (x.toNat : Int) (show 0 < k by omega)
      generalize hfr : (x.toNat : Int) % k = fr at *
      have hf7 : frm.length ≤ 7 := up_room (a := 0) (n := 7) hup fun x hx => by have := hin x hx; omega
      have hh := order_hear (b := b) (x := ⟨(batN ns).fill, (batN ns).view, ⟨(batN ns).tip.view, (batN ns).tip.slot⟩, (batN ns).time, v5_1⟩) (rs := (batN ns).rs) (frm := frm) (show 1 ≤ k by omega) ⟨hq0, hq1⟩ ⟨b0, by omega⟩ hm5_1
      have hcml : (cs.map Value.bool).length = 7 := by rw [List.length_map]; exact hcl
      have hcell : (cs.map Value.bool)[fr.toNat]? = some (.bool (decide (fr ∈ frm))) := by
        rw [List.getElem?_map, hcs fr.toNat (by omega), show ((fr.toNat : Nat) : Int) = fr by omega]; rfl
      refine CW.region ?_
      refine r_move rfl ?_
      refine r_move rfl ?_
      refine r_indexAddrV rfl Try.underlying22 (by simp only [upd_get, ev, Nat.reduceEqDiff, ↓reduceIte] <;> rfl) rfl (by first | assumption | exact SH.rsR H (by (repeat first | exact At.here | apply At.there); done) | exact SH.rsO H (by (repeat first | exact At.here | apply At.there); done) | exact (Rs.nil : Rs Non _ _ _)) (by exact Try.sizeOf5) (by omega) (by omega) ?_
      refine r_load rfl Try.isAgg5 rfl (by first | exact Rs.cell (by first | assumption | exact SH.rsR H (by (repeat first | exact At.here | apply At.there); done) | exact SH.rsO H (by (repeat first | exact At.here | apply At.there); done) | exact (Rs.nil : Rs Non _ _ _)) (by assumption) (by rfl) | exact Rs.cell0 (by first | assumption | exact SH.rsR H (by (repeat first | exact At.here | apply At.there); done) | exact SH.rsO H (by (repeat first | exact At.here | apply At.there); done) | exact (Rs.nil : Rs Non _ _ _)) (by assumption) (by rfl) | assumption) ?_
      refine r_convI rfl Try.underlying5 Try.underlying3 rfl (wr_i64 (by omega) (by omega)) ?_
      refine r_move rfl ?_
      refine r_rem rfl rfl rfl (by omega) (by omega) (wr_i64 (by omega) (by omega)) ?_
      refine r_assign rfl ?_
      refine LW.nil ?_
      refine thenE_norm ?_
      refine cut (K := K15) [1, 3, 9, 10, 11, 12, 13, 14, 15] (fun σ => ?_)
      simp only [setL, keepE, upd_get, ev, Nat.reduceEqDiff, ↓reduceIte]
      refine h15 _ _ ?_; clear h15; try clear K15
      refine CW.seq (fun K16 h16 => ?_)
      rw [hfr]
      refine CW.region ?_
      refine r_move rfl ?_
      refine r_move rfl ?_
      refine r_move rfl ?_
      refine r_convI rfl Try.underlying40 Try.underlying3 rfl (wr_i64 (by omega) (by omega)) ?_
      refine r_loadA rfl Try.isAgg27 Try.sizeOf27 rfl (by first | exact SH.cells H (by (repeat first | exact At.here | apply At.there); done)) (by rfl) ?_
      refine r_call rfl Try.call23 (by simp only [List.map_cons, List.map_nil, List.map_toArray, List.toList_toArray, upd_get, ev, Nat.reduceEqDiff, ↓reduceIte] <;> rfl) (Hear_c _ _ 1 ⟨_, _, ⟨_, _⟩, _, _⟩ _ (SH.prop H (i := 1) rfl) (SH.rsO H (i := 2) rfl) (SH.apartPO H (i := 1) (j := 2) rfl rfl (by decide)) hs5_1) ?_
      rintro _ w12_5 ⟨FN12_5, rfl, K⟩
      refine ⟨_, rfl, ?_⟩
      replace H := SH.updP H (i := 1) rfl K
      clear K
      try dsimp only [replC, List.cons_append, List.nil_append, List.append_nil] at H
      rw [hh] at H ⊢
      refine r_assign rfl ?_
      refine LW.nil ?_
      refine thenE_norm (h16 _ _ ?_); clear h16; try clear K16
      refine CW.seq (fun K17 h17 => ?_)
      refine CW.seq (fun K18 h18 => ?_)
      refine CW.region ?_
      refine r_move rfl ?_
      refine r_mul rfl rfl rfl (wr_i64 (by omega) (by omega)) ?_
      refine r_move rfl ?_
      refine r_gtr rfl rfl rfl ?_
      refine LW.nil ?_
      refine thenE_norm ?_
      refine cut (K := K18) [1, 3, 9, 10, 11, 12, 13, 14, 15, 16, 62] (fun σ => ?_)
      simp only [setL, keepE, upd_get, ev, Nat.reduceEqDiff, ↓reduceIte]
      refine h18 _ _ ?_; clear h18; try clear K18
      refine CW.cond rfl (fun hc3 => ?_) (fun hc3 => ?_)
      · try simp only [decide_eq_true_eq, decide_eq_false_iff_not, Bool.and_eq_true, Bool.or_eq_true, Bool.and_eq_false_iff, Bool.or_eq_false_iff, Bool.not_eq_true', Bool.not_eq_false', beq_iff_eq, bne_iff_ne, ne_eq, Decidable.not_not] at hc3
        have hq : k / 2 + 1 ≤ (frm.length : Int) := by omega
        rw [if_pos hq] at H
        refine CW.seq (fun K19 h19 => ?_)
        refine CW.seq (fun K20 h20 => ?_)
        refine CW.region ?_
        refine r_move rfl ?_
        refine r_neq rfl rfl rfl ?_
        refine LW.nil ?_
        refine thenE_norm (h20 _ _ ?_); clear h20; try clear K20
        refine CW.condF rfl (by rw [if_pos hq]; simp) ?_
        refine CW.skip ?_
        refine thenE_norm (h19 _ _ ?_); clear h19; try clear K19
        refine CW.exit (thenE_exit (blockE_hit ?_))
        refine thenE_norm (h14 _ _ ?_); clear h14; try clear K14
        refine CW.region ?_
        refine r_move rfl ?_
        refine r_add rfl rfl rfl (wr_i64 (by omega) (by omega)) ?_
        refine r_assign rfl ?_
        refine LW.nil ?_
        refine thenE_norm ⟨rfl, ?_⟩
        exact ⟨os.length - (i + 1), by omega, i + 1, frm, cs, FN12_5, rfl, by omega, rfl, ⟨hup, hin, hcl, hcs⟩, H⟩
      · try simp only [decide_eq_true_eq, decide_eq_false_iff_not, Bool.and_eq_true, Bool.or_eq_true, Bool.and_eq_false_iff, Bool.or_eq_false_iff, Bool.not_eq_true', Bool.not_eq_false', beq_iff_eq, bne_iff_ne, ne_eq, Decidable.not_not] at hc3
        have hq : ¬ k / 2 + 1 ≤ (frm.length : Int) := by omega
        rw [if_neg hq] at H
        refine CW.skip ?_
        refine thenE_norm (h17 _ _ ?_); clear h17; try clear K17
        refine CW.seqJ [1, 3, 9, 10, 11, 12, 14, 16] [13] (fun vs w' => ∃ cs' : List Bool, vs = [.int .i64 ((putK idK frm fr).length : Nat)] ∧ (cs'.length = 7 ∧ ∀ j : Nat, j < 7 → cs'[j]? = some (decide ((j : Int) ∈ putK idK frm fr))) ∧
SH Non Any w w' [.R (Old w) v1 os, .P FN12_5 (LrnA p ⟨k, 0, heardO b ⟨(batN ns).fill, (batN ns).view, ⟨(batN ns).tip.view, (batN ns).tip.slot⟩, (batN ns).time, v5_1⟩ (batN ns).rs (putK idK frm fr)⟩ FN12_5), .O 32 v5_1 (batN ns).rs g5_1, .B b5_2 27 [.bool (batN ns).fill, .int .i64 (batN ns).view, .int .i64 (batN ns).tip.view, .int .i64 (batN ns).tip.slot, .int .i64 (batN ns).time, v5_1], .B b6_0 44 (cs'.map Value.bool)]) ?_ ?_
        · refine CW.seq (fun K22 h22 => ?_)
          refine CW.region ?_
          refine r_move rfl ?_
          refine r_indexAddrA rfl Try.underlying44 rfl rfl (by exact Try.sizeOf4) (by omega) (by show fr < 7; omega) ?_
          refine r_load rfl Try.isAgg4 rfl ((SH.blk H (i := 4) rfl).cell (o := 0 + fr.toNat * 1) (by rw [Nat.zero_add, Nat.mul_one]; exact hcell)) ?_
          refine r_not rfl rfl ?_
          refine LW.nil ?_
          refine thenE_norm (h22 _ _ ?_); clear h22; try clear K22
          refine CW.cond rfl (fun hc5 => ?_) (fun hc5 => ?_)
          · try simp only [decide_eq_true_eq, decide_eq_false_iff_not, Bool.and_eq_true, Bool.or_eq_true, Bool.and_eq_false_iff, Bool.or_eq_false_iff, Bool.not_eq_true', Bool.not_eq_false', beq_iff_eq, bne_iff_ne, ne_eq, Decidable.not_not] at hc5
            refine CW.seq (fun K23 h23 => ?_)
            refine CW.region ?_
            refine r_move rfl ?_
            refine r_indexAddrA rfl Try.underlying44 rfl rfl (by exact Try.sizeOf4) (by omega) (by show fr < 7; omega) ?_
            refine s_store H Try.sizeOf4 rfl (by simp only [upd_get, ev, Nat.reduceEqDiff, ↓reduceIte] <;> rfl) (by first | rfl | assumption | exact Rs.oneC (by first | assumption | exact SH.rsR H (by (repeat first | exact At.here | apply At.there); done) | exact SH.rsO H (by (repeat first | exact At.here | apply At.there); done) | exact (Rs.nil : Rs Non _ _ _)) | (simp only [List.all_cons, List.all_nil, Bool.and_true, Bool.and_eq_true, Row.cells, Cm.L, Rq.L, Tp.L, Bat.L, Ty.L]; (repeat' constructor) <;> first | rfl | assumption | exact Rs.oneC (by first | assumption | exact SH.rsR H (by (repeat first | exact At.here | apply At.there); done) | exact SH.rsO H (by (repeat first | exact At.here | apply At.there); done) | exact (Rs.nil : Rs Non _ _ _)))) (by (repeat first | exact At.here | apply At.there); done) (by first | (simp; done) | decide | omega) ?_
            clear H
            intro w17_2 H
            try dsimp only [replC, List.cons_append, List.nil_append, List.append_nil, agg, cellsL, Value.cells, List.toList_toArray, List.set_cons_zero, List.set_cons_succ, spliceL, List.take_succ_cons, List.take_zero, List.drop_succ_cons, List.drop_zero, List.length_cons, List.length_nil, Nat.reduceAdd, Row.cells, Cm.L, Rq.L, Tp.L, Bat.L, Ty.L] at H
            refine LW.nil ?_
            refine thenE_norm (h23 _ _ ?_); clear h23; try clear K23
            refine CW.region ?_
            refine r_move rfl ?_
            refine r_add rfl rfl rfl (wr_i64 (by omega) (by omega)) ?_
            refine r_assign rfl ?_
            refine LW.nil ?_
            refine thenE_norm ?_
            exact ⟨rfl, cs.set fr.toNat true, by rw [putI_new hup hc5]; rfl, ⟨by rw [List.length_set]; exact hcl, marks_set hq0 hcl (by omega) hcs⟩, by
              rw [Nat.zero_add, Nat.mul_one, ← List.map_set] at H
              exact SH.sel H [0, 1, 2, 3, 4] (by decide) rfl⟩
          · try simp only [decide_eq_true_eq, decide_eq_false_iff_not, Bool.and_eq_true, Bool.or_eq_true, Bool.and_eq_false_iff, Bool.or_eq_false_iff, Bool.not_eq_true', Bool.not_eq_false', beq_iff_eq, bne_iff_ne, ne_eq, Decidable.not_not] at hc5
            refine CW.skip ?_
            refine thenE_norm ?_
            have hc5' : fr ∈ frm := by simpa using hc5
            exact ⟨rfl, cs, by rw [putI_in hup hc5']; rfl, ⟨hcl, by rw [putI_in hup hc5']; exact hcs⟩, SH.sel H [0, 1, 2, 3, 4] (by decide) rfl⟩
        try clear H
        rintro vs wJ σ ⟨cs', rfl, ⟨hcl', hcs'⟩, H⟩
        simp only [setL, keepE, upd_get, ev, Nat.reduceEqDiff, ↓reduceIte]
        have hup' := putK_up (m := fr) hup
        have hin' : ∀ x ∈ putK idK frm fr, 0 ≤ x ∧ x < k := fun x hx => by
          rcases putI_iff.1 hx with rfl | hx
          · exact ⟨hq0, hq1⟩
          · exact hin x hx
        have hch := chO k b ⟨(batN ns).fill, (batN ns).view, ⟨(batN ns).tip.view, (batN ns).tip.slot⟩, (batN ns).time, v5_1⟩ (batN ns).rs (by omega) (putK idK frm fr)
        have hf8 : (putK idK frm fr).length ≤ 7 := up_room (a := 0) (n := 7) hup' fun x hx => by have := hin' x hx; omega
        have hne : putK idK frm fr ≠ [] := putK_ne
        have hout : k / 2 + 1 ≤ ((putK idK frm fr).length : Int) → outT k (lookM (heardO b ⟨(batN ns).fill, (batN ns).view, ⟨(batN ns).tip.view, (batN ns).tip.slot⟩, (batN ns).time, v5_1⟩ (batN ns).rs (putK idK frm fr)) 1) = heardB b ⟨(batN ns).fill, (batN ns).view, ⟨(batN ns).tip.view, (batN ns).tip.slot⟩, (batN ns).time, v5_1⟩ (batN ns).rs (putK idK frm fr) := fun q => by
          rw [outT, hch, decide_eq_true q, if_pos rfl, heardO_look _ _ _ _ hne]; rfl
        refine CW.seq (fun K24 h24 => ?_)
        refine CW.region ?_
        refine r_move rfl ?_
        refine r_call rfl Try.call24 (by simp only [List.map_cons, List.map_nil, List.map_toArray, List.toList_toArray, upd_get, ev, Nat.reduceEqDiff, ↓reduceIte] <;> rfl) (Chosen_c _ _ (SH.prop H (by (repeat first | exact At.here | apply At.there); done))) ?_
        rintro _ w19_1 ⟨v19_1, g19_1, rfl, K⟩
        refine ⟨_, rfl, ?_⟩
        replace H := SH.call H K
        clear K
        try dsimp only [replC, List.cons_append, List.nil_append, List.append_nil] at H
        rw [hch]
        refine r_move rfl ?_
        refine r_extract rfl (by simp only [upd_get, ev, Nat.reduceEqDiff, ↓reduceIte] <;> rfl) (by simp only [List.getElem?_toArray, List.getElem?_cons_zero, List.getElem?_cons_succ] <;> rfl) ?_
        refine r_extract rfl (by simp only [upd_get, ev, Nat.reduceEqDiff, ↓reduceIte] <;> rfl) (by simp only [List.getElem?_toArray, List.getElem?_cons_zero, List.getElem?_cons_succ] <;> rfl) ?_
        refine s_alloc (cs := [.bool false, .int .i64 0, .int .i64 0, .int .i64 0, .int .i64 0, .slice none 0 0]) H rfl Try.zeroValue27 rfl ?_
        clear H
        intro b19_5 w19_5 H
        try dsimp only [replC, List.cons_append, List.nil_append, List.append_nil, agg, cellsL, Value.cells, List.toList_toArray, List.set_cons_zero, List.set_cons_succ, spliceL, List.take_succ_cons, List.take_zero, List.drop_succ_cons, List.drop_zero, List.length_cons, List.length_nil, Nat.reduceAdd, Row.cells, Cm.L, Rq.L, Tp.L, Bat.L, Ty.L] at H
        refine s_storeA H Try.sizeOf27 rfl (by simp only [upd_get, ev, Nat.reduceEqDiff, ↓reduceIte] <;> rfl) (by simp only [cellsL, agg, List.toList_toArray, Row.cells, Cm.L, Rq.L, Tp.L, Bat.L, Ty.L] <;> rfl) (by rfl) (by first | rfl | assumption | exact Rs.oneC (by first | assumption | exact SH.rsR H (by (repeat first | exact At.here | apply At.there); done) | exact SH.rsO H (by (repeat first | exact At.here | apply At.there); done) | exact (Rs.nil : Rs Non _ _ _)) | (simp only [List.all_cons, List.all_nil, Bool.and_true, Bool.and_eq_true, Row.cells, Cm.L, Rq.L, Tp.L, Bat.L, Ty.L]; (repeat' constructor) <;> first | rfl | assumption | exact Rs.oneC (by first | assumption | exact SH.rsR H (by (repeat first | exact At.here | apply At.there); done) | exact SH.rsO H (by (repeat first | exact At.here | apply At.there); done) | exact (Rs.nil : Rs Non _ _ _)))) (by (repeat first | exact At.here | apply At.there); done) (by first | (simp; done) | decide | (show _ ≤ _; decide)) ?_
        clear H
        intro w19_6 H
        try dsimp only [replC, List.cons_append, List.nil_append, List.append_nil, agg, cellsL, Value.cells, List.toList_toArray, List.set_cons_zero, List.set_cons_succ, spliceL, List.take_succ_cons, List.take_zero, List.drop_succ_cons, List.drop_zero, List.length_cons, List.length_nil, Nat.reduceAdd, Row.cells, Cm.L, Rq.L, Tp.L, Bat.L, Ty.L] at H
        refine r_assign rfl ?_
        refine LW.nil ?_
        refine thenE_norm ?_
        refine cut (K := K24) [1, 3, 9, 10, 11, 12, 13, 14, 16, 17, 18] (fun σ => ?_)
        simp only [setL, keepE, upd_get, ev, Nat.reduceEqDiff, ↓reduceIte]
        refine h24 _ _ ?_; clear h24; try clear K24
        refine CW.seq (fun K25 h25 => ?_)
        refine CW.region ?_
        refine r_move rfl ?_
        refine r_neq rfl rfl rfl ?_
        refine r_move rfl ?_
        refine LW.known (t := 80) (c := false) rfl (by rw [if_neg hq]; simp) (fun hg20_3 => ?_)
        refine LW.want rfl rfl hg20_3 ?_
        refine r_move rfl ?_
        refine LW.want rfl rfl hg20_3 ?_
        refine r_move rfl ?_
        refine LW.want rfl rfl hg20_3 ?_
        refine r_mul rfl rfl rfl (wr_i64 (by omega) (by omega)) ?_
        refine LW.want rfl rfl hg20_3 ?_
        refine r_move rfl ?_
        refine LW.want rfl rfl hg20_3 ?_
        refine r_gtr rfl rfl rfl ?_
        refine LW.want rfl rfl hg20_3 ?_
        refine r_neqB rfl Try.underlying4 rfl rfl ?_
        refine r_pickF rfl rfl hg20_3 ?_
        refine r_move rfl ?_
        refine LW.known (t := 88) (c := false) rfl (show (decide (k / 2 + 1 ≤ (((putK idK frm fr).length : Nat) : Int)) != decide (k < 2 * (((putK idK frm fr).length : Nat) : Int))) = false from by rw [show decide (k < 2 * (((putK idK frm fr).length : Nat) : Int)) = decide (k / 2 + 1 ≤ (((putK idK frm fr).length : Nat) : Int)) from decide_eq_decide.2 (by omega)]; simp) (fun hg20_11 => ?_)
        refine LW.want rfl rfl hg20_11 ?_
        refine r_move rfl ?_
        refine LW.want rfl rfl hg20_11 ?_
        refine r_move rfl ?_
        refine LW.splitB (t := 90) rfl (fun hg20_13 => ?_) (fun hg20_13 => ?_)
        · have hg20_13P := hg20_13
          try simp only [decide_eq_true_eq, decide_eq_false_iff_not, Bool.and_eq_true, Bool.or_eq_true, Bool.and_eq_false_iff, Bool.or_eq_false_iff, Bool.not_eq_true', Bool.not_eq_false', beq_iff_eq, bne_iff_ne] at hg20_13P
          refine LW.want rfl rfl hg20_13 ?_
          refine r_loadA rfl Try.isAgg27 Try.sizeOf27 rfl (by first | exact SH.cells H (by (repeat first | exact At.here | apply At.there); done)) (by rfl) ?_
          refine LW.want rfl rfl hg20_13 ?_
          refine r_loadA rfl Try.isAgg27 Try.sizeOf27 rfl (by first | exact SH.cells H (by (repeat first | exact At.here | apply At.there); done)) (by rfl) ?_
          refine LW.want rfl rfl hg20_13 ?_
          refine r_call rfl Try.call25 (by simp only [List.map_cons, List.map_nil, List.map_toArray, List.toList_toArray, upd_get, ev, Nat.reduceEqDiff, ↓reduceIte] <;> rfl) (SameBatR_c ⟨_, _, ⟨_, _⟩, _, _⟩ ⟨_, _, ⟨_, _⟩, _, _⟩ _ (SH.rsO H (i := 5) rfl) (SH.rsO H (i := 2) rfl)) ?_
          rintro _ w20_15 ⟨rfl, X⟩
          refine ⟨_, rfl, ?_⟩
          replace H := SH.same H X
          clear X
          refine LW.want rfl rfl hg20_13 ?_
          refine r_not rfl rfl ?_
          refine LW.want rfl rfl hg20_11 ?_
          refine r_pickT rfl rfl hg20_13 ?_
          refine r_pickF rfl rfl hg20_11 ?_
          refine LW.nil ?_
          refine thenE_norm ?_
          refine cut (K := K25) [1, 3, 9, 10, 11, 12, 13, 14, 96] (fun σ => ?_)
          simp only [setL, keepE, upd_get, ev, Nat.reduceEqDiff, ↓reduceIte]
          refine h25 _ _ ?_; clear h25; try clear K25
          refine CW.condF rfl (by
  rw [hout (by first | assumption | omega)]
  simp [sameBat, heardB]) ?_
          refine CW.skip ?_
          refine blockE_norm ?_
          refine thenE_norm (h14 _ _ ?_); clear h14; try clear K14
          refine CW.region ?_
          refine r_move rfl ?_
          refine r_add rfl rfl rfl (wr_i64 (by omega) (by omega)) ?_
          refine r_assign rfl ?_
          refine LW.nil ?_
          refine thenE_norm ⟨rfl, ?_⟩
          exact ⟨os.length - (i + 1), by omega, i + 1, putK idK frm fr, cs', FN12_5, rfl, by omega, rfl, ⟨hup', hin', hcl', hcs'⟩, SH.sel H [0, 1, 2, 3, 4] (by decide) rfl⟩
        · have hg20_13P := hg20_13
          try simp only [decide_eq_true_eq, decide_eq_false_iff_not, Bool.and_eq_true, Bool.or_eq_true, Bool.and_eq_false_iff, Bool.or_eq_false_iff, Bool.not_eq_true', Bool.not_eq_false', beq_iff_eq, bne_iff_ne] at hg20_13P
          refine LW.skip rfl (fun _ e => by cases e; decide) rfl hg20_13 ?_
          refine LW.skip rfl (fun _ e => by cases e; decide) rfl hg20_13 ?_
          refine LW.skip rfl (fun _ e => by cases e; decide) rfl hg20_13 ?_
          refine LW.skip rfl (fun _ e => by cases e; decide) rfl hg20_13 ?_
          refine LW.want rfl rfl hg20_11 ?_
          refine r_pickF rfl rfl hg20_13 ?_
          refine r_pickF rfl rfl hg20_11 ?_
          refine LW.nil ?_
          refine thenE_norm ?_
          refine cut (K := K25) [1, 3, 9, 10, 11, 12, 13, 14, 96] (fun σ => ?_)
          simp only [setL, keepE, upd_get, ev, Nat.reduceEqDiff, ↓reduceIte]
          refine h25 _ _ ?_; clear h25; try clear K25
          refine CW.condF rfl (by first | rfl | (simp only [decide_eq_true_eq, decide_eq_false_iff_not, Bool.and_eq_true, Bool.or_eq_true, Bool.and_eq_false_iff, Bool.or_eq_false_iff, Bool.not_eq_true', Bool.not_eq_false', beq_iff_eq, bne_iff_ne]; omega) | simp_all) ?_
          refine CW.skip ?_
          refine blockE_norm ?_
          refine thenE_norm (h14 _ _ ?_); clear h14; try clear K14
          refine CW.region ?_
          refine r_move rfl ?_
          refine r_add rfl rfl rfl (wr_i64 (by omega) (by omega)) ?_
          refine r_assign rfl ?_
          refine LW.nil ?_
          refine thenE_norm ⟨rfl, ?_⟩
          exact ⟨os.length - (i + 1), by omega, i + 1, putK idK frm fr, cs', FN12_5, rfl, by omega, rfl, ⟨hup', hin', hcl', hcs'⟩, SH.sel H [0, 1, 2, 3, 4] (by decide) rfl⟩
    · try simp only [decide_eq_true_eq, decide_eq_false_iff_not, Bool.and_eq_true, Bool.or_eq_true, Bool.and_eq_false_iff, Bool.or_eq_false_iff, Bool.not_eq_true', Bool.not_eq_false', beq_iff_eq, bne_iff_ne, ne_eq, Decidable.not_not] at hc2
      refine CW.exit (thenE_exit (thenE_exit (blockE_hit ?_)))
      refine thenE_norm (h10 _ _ ?_); clear h10; try clear K10
      refine CW.seq (fun K26 h26 => ?_)
      refine CW.region ?_
      refine r_call rfl Try.call22 (by simp only [List.map_cons, List.map_nil, List.map_toArray, List.toList_toArray, upd_get, ev, Nat.reduceEqDiff, ↓reduceIte] <;> rfl) (awake15_c _) ?_
      rintro _ w22_0 ⟨rfl, X⟩
      refine ⟨_, rfl, ?_⟩
      replace H := SH.same H X
      clear X
      refine r_assign rfl ?_
      refine LW.nil ?_
      refine thenE_norm (h26 _ _ ?_); clear h26; try clear K26
      refine CW.ret (ret1 Try.results4 (by simp only [upd_get, ev, Nat.reduceEqDiff, ↓reduceIte]; rfl) ?_)
      exact ⟨rfl, H.ext⟩
end Go.Proofs.Ytalieccfdmokmaa
