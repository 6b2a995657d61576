/-
  The walks of layer 12's laws: batches by numbers.
-/
import Derived.Test.YtalieccfdmokmaaVBnA
import Derived.Test.YtalieccfdmokmaaVLaw4E
namespace Go.Proofs.Ytalieccfdmokmaa
set_option linter.unusedSimpArgs false
set_option linter.unusedVariables false
set_option maxRecDepth 20000
open Go.V Go.RowKit Go.ChangeShapes Go.WideShapes

/-- A request by numbers. -/
def rqN (c q k s m : Int) : Rq := ⟨c % 8, 1 + q, ⟨kindN k, sessN k s, nameN k m⟩⟩
theorem ReqS_c (c q k s m : Int) (w : World) (hc : 0 ≤ c ∧ c < 256) (hq : 0 ≤ q ∧ q < 256) (hk : 0 ≤ k ∧ k < 256) (hs : 0 ≤ s ∧ s < 256) (hm : 0 ≤ m ∧ m < 256) :
    Calls Try.prog 17 #[.int .u8 c, .int .u8 q, .int .u8 k, .int .u8 s, .int .u8 m] w fun e w' => e = .returned (agg (rqN c q k s m)) ∧ Ext0 w w' :=
  Req_c c q k s m w hc.1 hc.2 hq.1 hq.2 hk.1 hk.2 hs.1 hs.2 hm.1 hm.2
theorem rqN_may {c q k s m : Int} (hc : 0 ≤ c) (hq : 0 ≤ q) (hq2 : q < 256) (hk : 0 ≤ k) (hs : 0 ≤ s) (hm : 0 ≤ m) : mayRq (rqN c q k s m) = true := by
  show mayReqM (c % 8) (1 + q) (kindN k) (sessN k s) (nameN k m).data.toList = true
  rw [mayReqM, cmdN_may k s m hk hs hm, decide_eq_true (by omega), decide_eq_true (by omega), decide_eq_true (by omega), decide_eq_true (by omega)]
  rfl
theorem rqN_size (c q k s m : Int) (hm : 0 ≤ m) : (rqN c q k s m).cmd.name.size ≤ 12 := nameN_size k m hm
theorem chkQ_app {rs ss : List Rq} {i : Nat} (h : i < rs.length) : chkQ (rs ++ ss) i = chkQ rs i := by
  rw [chkQ, chkQ, List.getElem?_append_left h, List.take_append_of_le_length (by omega)]
theorem mayQ_snoc {rs : List Rq} {x : Rq} (h : mayQ rs = true) (hx : mayRq x = true) (hn : rs.any (sameC x) = false) : mayQ (rs ++ [x]) = true := by
  have h1 : preQ (rs ++ [x]) rs.length = preQ rs rs.length := by
    rw [preQ, preQ, Bool.eq_iff_iff, List.all_eq_true, List.all_eq_true]
    refine forall_congr' fun j => forall_congr' fun hj => ?_
    rw [List.mem_range] at hj
    rw [chkQ_app hj]
  rw [mayQ, List.length_append, List.length_singleton, preQ_succ, h1, ← mayQ, h, Bool.true_and, chkQ_eq (x := x) (by simp), hx, List.take_left, hn]
  rfl
theorem small_snoc {rs : List Rq} {x : Rq} (h : smallQ rs) (hx : x.cmd.name.size ≤ 9223372036854775807) : smallQ (rs ++ [x]) := fun g hg => by
  rcases List.mem_append.1 hg with hg | hg
  · exact h g hg
  · rw [List.mem_singleton] at hg; subst hg; exact hx
theorem byte_at (ns : List UInt8) {i : Nat} {x : UInt8} (h : ns[i]? = some x) : 0 ≤ (x.toNat : Int) ∧ (x.toNat : Int) < 256 := by
  have := x.toNat_lt; omega
/-- A batch by numbers. -/
structure Bb where
  fill : Bool
  view : Int
  tip : Tp
  time : Int
  rs : List Rq
deriving DecidableEq
def rsN : List UInt8 → List Rq → List Rq
  | a :: b :: c :: d :: e :: t, acc => if acc.length < 3 then rsN t (if acc.any (sameC (rqN a.toNat b.toNat c.toNat d.toNat e.toNat)) then acc else acc ++ [rqN a.toNat b.toNat c.toNat d.toNat e.toNat]) else acc
  | [], acc => acc
  | [_], acc => acc
  | [_, _], acc => acc
  | [_, _, _], acc => acc
  | [_, _, _, _], acc => acc
def fillB : Bb := ⟨true, 0, ⟨0, 0⟩, 0, []⟩
def batN : List UInt8 → Bb
  | x0 :: x1 :: x2 :: x3 :: t => if x0.toNat = 255 then fillB else ⟨false, (x2.toNat : Int) % 8, ⟨(x0.toNat : Int) % 4, (x1.toNat : Int) % 6⟩, (x3.toNat : Int), rsN t []⟩
  | _ => fillB
def mayB (b : Bb) : Bool := mayBat b.fill b.view b.tip b.time b.rs
theorem rsN_end {l : List UInt8} {acc : List Rq} (h : 3 ≤ acc.length ∨ l.length < 5) : rsN l acc = acc := by
  match l with
  | [] => rfl
  | [_] => rfl
  | [_, _] => rfl
  | [_, _, _] => rfl
  | [_, _, _, _] => rfl
  | a :: b :: c :: d :: e :: t =>
    rw [rsN, if_neg]
    rcases h with h | h
    · omega
    · simp at h; omega
theorem drop_5 {ns : List UInt8} {i : Nat} {y0 y1 y2 y3 y4 : UInt8} (h0 : ns[i]? = some y0) (h1 : ns[i + 1]? = some y1) (h2 : ns[i + 2]? = some y2) (h3 : ns[i + 3]? = some y3) (h4 : ns[i + 4]? = some y4) : ns.drop i = y0 :: y1 :: y2 :: y3 :: y4 :: ns.drop (i + 5) := by
  have one : ∀ (k : Nat) (y : UInt8), ns[k]? = some y → ns.drop k = y :: ns.drop (k + 1) := fun k y h => by
    have hl := lt_of_get h
    rw [List.drop_eq_getElem_cons hl]
    rw [List.getElem?_eq_getElem hl] at h
    rw [Option.some.inj h]
  rw [one i y0 h0, one (i + 1) y1 h1, one (i + 2) y2 h2, one (i + 3) y3 h3, one (i + 4) y4 h4]
theorem batN_short {ns : List UInt8} (h : ns.length < 4) : batN ns = fillB := by
  match ns, h with
  | [], _ => rfl
  | [_], _ => rfl
  | [_, _], _ => rfl
  | [_, _, _], _ => rfl
  | _ :: _ :: _ :: _ :: _, h => simp at h; omega
theorem batN_full {ns : List UInt8} (h : 0 < ns.length) (h255 : (ns[0].toNat : Int) = 255) : batN ns = fillB := by
  match ns, h with
  | [_], _ => rfl
  | [_, _], _ => rfl
  | [_, _, _], _ => rfl
  | x0 :: _ :: _ :: _ :: _, h =>
    have : x0.toNat = 255 := by have : (x0.toNat : Int) = 255 := h255; omega
    rw [batN, if_pos this]
theorem batN_go {ns : List UInt8} {x0 x1 x2 x3 : UInt8} (h0 : ns[0]? = some x0) (h1 : ns[1]? = some x1) (h2 : ns[2]? = some x2) (h3 : ns[3]? = some x3) (hn : x0.toNat ≠ 255) : batN ns = ⟨false, (x2.toNat : Int) % 8, ⟨(x0.toNat : Int) % 4, (x1.toNat : Int) % 6⟩, (x3.toNat : Int), rsN (ns.drop 4) []⟩ := by
  match ns, h0, h1, h2, h3 with
  | a :: b :: c :: d :: t, h0, h1, h2, h3 =>
    simp only [List.getElem?_cons_zero, List.getElem?_cons_succ, Option.some.injEq] at h0 h1 h2 h3
    subst h0 h1 h2 h3
    rw [batN, if_neg hn]; rfl
set_option maxHeartbeats 16000000 in
theorem BatchN_c {F : Nat → Prop} {v : Value} {ns : List UInt8} (w : World) (hv : Rs F w v ns) (hn : ns.length ≤ 140737488355328) :
    Calls Try.prog 16 #[v] w fun e w' => ∃ (u : Value) (g : Option Nat), e = .returned (agg (⟨(batN ns).fill, (batN ns).view, (batN ns).tip, (batN ns).time, u⟩ : Bat)) ∧ mayB (batN ns) = true ∧ smallQ (batN ns).rs ∧ SH Non Non w w' [.O 32 u (batN ns).rs g] := by
  have H := (SH.start w).arg hv
  have h63 := hv.len63
  refine calls_of_CW Try.func16 rfl Try.ntmps16 (Nat.le_of_ble_eq_true rfl) ?_
  simp only [argE, argFrom, Nat.reduceAdd]
  refine CW.seq (fun K1 h1 => ?_)
  refine CW.region ?_
  refine s_alloc (cs := [.bool false, .int .i64 0, .int .i64 0, .int .i64 0, .int .i64 0, .slice none 0 0]) H rfl Try.zeroValue27 rfl ?_
  clear H
  intro b0_0 w0_0 H
  try dsimp only [replC, List.cons_append, List.nil_append, List.append_nil, agg, cellsL, Value.cells, List.toList_toArray, List.set_cons_zero, List.set_cons_succ, spliceL, List.take_succ_cons, List.take_zero, List.drop_succ_cons, List.drop_zero, List.length_cons, List.length_nil, Nat.reduceAdd, Row.cells, Cm.L, Rq.L, Tp.L, Bat.L] at H
  refine LW.nil ?_
  refine thenE_norm (h1 _ _ ?_); clear h1; try clear K1
  refine CW.seq (fun K2 h2 => ?_)
  refine CW.seq (fun K3 h3 => ?_)
  refine CW.region ?_
  refine r_move rfl ?_
  first
    | refine r_lenV rfl Try.underlying22 (by simp only [upd_get, ev, Nat.reduceEqDiff, ↓reduceIte] <;> rfl) (by first | assumption | exact SH.rsR H (by (repeat first | exact At.here | apply At.there); done) | exact SH.rsO H (by (repeat first | exact At.here | apply At.there); done) | exact (Rs.nil : Rs Non _ _ _)) ?_
    | refine r_len rfl Try.underlying22 rfl ?_
  refine r_lss rfl rfl rfl ?_
  refine r_move rfl ?_
  refine LW.splitB (t := 11) rfl (fun hg1_4 => ?_) (fun hg1_4 => ?_)
  · have hg1_4P := hg1_4
    try simp only [decide_eq_true_eq, decide_eq_false_iff_not, Bool.and_eq_true, Bool.or_eq_true, Bool.and_eq_false_iff, Bool.or_eq_false_iff, Bool.not_eq_true', Bool.not_eq_false', beq_iff_eq, bne_iff_ne] at hg1_4P
    refine LW.skip rfl (fun _ e => by cases e; decide) rfl hg1_4 ?_
    refine LW.skip rfl (fun _ e => by cases e; decide) rfl hg1_4 ?_
    refine LW.skip rfl (fun _ e => by cases e; decide) rfl hg1_4 ?_
    refine LW.skip rfl (fun _ e => by cases e; decide) rfl hg1_4 ?_
    refine r_pickT rfl rfl hg1_4 ?_
    refine LW.nil ?_
    refine thenE_norm (h3 _ _ ?_); clear h3; try clear K3
    refine CW.condT rfl (by first | rfl | (simp only [decide_eq_true_eq, decide_eq_false_iff_not, Bool.and_eq_true, Bool.or_eq_true, Bool.and_eq_false_iff, Bool.or_eq_false_iff, Bool.not_eq_true', Bool.not_eq_false', beq_iff_eq, bne_iff_ne]; omega) | simp_all) ?_
    refine CW.seq (fun K4 h4 => ?_)
    refine CW.region ?_
    refine r_buildQ rfl Try.underlying27 Try.zeroValue27 rfl (pl := [(0, 1), (1, 1), (2, 2), (4, 1), (5, 1)]) (by intro w; simp [go_sem]) (qs := [(0, [_])]) (cs := [_, .int .i64 0, .int .i64 0, .int .i64 0, .int .i64 0, .slice none 0 0]) ⟨rfl, cells_one (by simp only [upd_get, ev, Nat.reduceEqDiff, ↓reduceIte] <;> rfl) (by first | rfl | exact Rs.oneC (by first | assumption | exact SH.rsR H (by (repeat first | exact At.here | apply At.there); done) | exact SH.rsO H (by (repeat first | exact At.here | apply At.there); done) | exact (Rs.nil : Rs Non _ _ _))), trivial⟩ rfl ?_
    refine s_storeA H Try.sizeOf27 rfl (by simp only [upd_get, ev, Nat.reduceEqDiff, ↓reduceIte] <;> rfl) (by simp only [cellsL, agg, List.toList_toArray, Row.cells, Cm.L, Rq.L, Tp.L, Bat.L] <;> rfl) (by rfl) (by first | rfl | assumption | exact Rs.oneC (by first | assumption | exact SH.rsR H (by (repeat first | exact At.here | apply At.there); done) | exact SH.rsO H (by (repeat first | exact At.here | apply At.there); done) | exact (Rs.nil : Rs Non _ _ _)) | (simp only [List.all_cons, List.all_nil, Bool.and_true, Bool.and_eq_true, Row.cells, Cm.L, Rq.L, Tp.L, Bat.L]; (repeat' constructor) <;> first | rfl | assumption | exact Rs.oneC (by first | assumption | exact SH.rsR H (by (repeat first | exact At.here | apply At.there); done) | exact SH.rsO H (by (repeat first | exact At.here | apply At.there); done) | exact (Rs.nil : Rs Non _ _ _)))) (by (repeat first | exact At.here | apply At.there); done) (by first | (simp; done) | decide | (show _ ≤ _; decide)) ?_
    clear H
    intro w2_1 H
    try dsimp only [replC, List.cons_append, List.nil_append, List.append_nil, agg, cellsL, Value.cells, List.toList_toArray, List.set_cons_zero, List.set_cons_succ, spliceL, List.take_succ_cons, List.take_zero, List.drop_succ_cons, List.drop_zero, List.length_cons, List.length_nil, Nat.reduceAdd, Row.cells, Cm.L, Rq.L, Tp.L, Bat.L] at H
    refine LW.nil ?_
    refine thenE_norm ?_
    refine cut (K := K4) [2] (fun σ => ?_)
    simp only [setL, keepE, upd_get, ev, Nat.reduceEqDiff, ↓reduceIte]
    refine h4 _ _ ?_; clear h4; try clear K4
    refine CW.ret (thenE_ret (retC1 Try.results16 (by simp only [upd_get, ev, Nat.reduceEqDiff, ↓reduceIte] <;> rfl) Try.isAgg27 Try.sizeOf27 (by exact SH.cells H (by (repeat first | exact At.here | apply At.there); done)) (by rfl) ?_))
    have hfl : batN ns = fillB := by
      first
        | exact batN_short (by simp at hg1_4; omega)
        | exact batN_full (by simp at hg1_4; omega) hc1
    rw [hfl]
    exact ⟨_, none, rfl, rfl, nil_small, SH.give (H.addO (α := Rq) 32) (by repeat first | exact List.Sublist.refl _ | exact List.nil_sublist _ | apply List.Sublist.cons_cons | apply List.Sublist.cons) ⟨trivial, trivial⟩⟩
  · have hg1_4P := hg1_4
    try simp only [decide_eq_true_eq, decide_eq_false_iff_not, Bool.and_eq_true, Bool.or_eq_true, Bool.and_eq_false_iff, Bool.or_eq_false_iff, Bool.not_eq_true', Bool.not_eq_false', beq_iff_eq, bne_iff_ne] at hg1_4P
    refine LW.want rfl rfl hg1_4 ?_
    refine r_move rfl ?_
    refine LW.want rfl rfl hg1_4 ?_
    refine r_indexAddrV rfl Try.underlying22 (by simp only [upd_get, ev, Nat.reduceEqDiff, ↓reduceIte] <;> rfl) rfl (by first | assumption | exact SH.rsR H (by (repeat first | exact At.here | apply At.there); done) | exact SH.rsO H (by (repeat first | exact At.here | apply At.there); done) | exact (Rs.nil : Rs Non _ _ _)) (by exact Try.sizeOf5) (by decide) (by simp at hg1_4; omega) ?_
    refine LW.want rfl rfl hg1_4 ?_
    refine r_load rfl Try.isAgg5 rfl (Rs.cell0 (i := 0) (by exact SH.rsR H (i := 0) rfl) (List.getElem?_eq_getElem (show 0 < ns.length by simp at hg1_4; omega)) rfl) ?_
    refine LW.want rfl rfl hg1_4 ?_
    refine r_eql rfl rfl rfl ?_
    refine r_pickF rfl rfl hg1_4 ?_
    refine LW.nil ?_
    refine thenE_norm ?_
    refine cut (K := K3) [0, 2, 16] (fun σ => ?_)
    simp only [setL, keepE, upd_get, ev, Nat.reduceEqDiff, ↓reduceIte]
    refine h3 _ _ ?_; clear h3; try clear K3
    refine CW.cond rfl (fun hc1 => ?_) (fun hc1 => ?_)
    · try simp only [decide_eq_true_eq, decide_eq_false_iff_not, Bool.and_eq_true, Bool.or_eq_true, Bool.and_eq_false_iff, Bool.or_eq_false_iff, Bool.not_eq_true', Bool.not_eq_false', beq_iff_eq, bne_iff_ne, ne_eq, Decidable.not_not] at hc1
      refine CW.seq (fun K5 h5 => ?_)
      refine CW.region ?_
      refine r_buildQ rfl Try.underlying27 Try.zeroValue27 rfl (pl := [(0, 1), (1, 1), (2, 2), (4, 1), (5, 1)]) (by intro w; simp [go_sem]) (qs := [(0, [_])]) (cs := [_, .int .i64 0, .int .i64 0, .int .i64 0, .int .i64 0, .slice none 0 0]) ⟨rfl, cells_one (by simp only [upd_get, ev, Nat.reduceEqDiff, ↓reduceIte] <;> rfl) (by first | rfl | exact Rs.oneC (by first | assumption | exact SH.rsR H (by (repeat first | exact At.here | apply At.there); done) | exact SH.rsO H (by (repeat first | exact At.here | apply At.there); done) | exact (Rs.nil : Rs Non _ _ _))), trivial⟩ rfl ?_
      refine s_storeA H Try.sizeOf27 rfl (by simp only [upd_get, ev, Nat.reduceEqDiff, ↓reduceIte] <;> rfl) (by simp only [cellsL, agg, List.toList_toArray, Row.cells, Cm.L, Rq.L, Tp.L, Bat.L] <;> rfl) (by rfl) (by first | rfl | assumption | exact Rs.oneC (by first | assumption | exact SH.rsR H (by (repeat first | exact At.here | apply At.there); done) | exact SH.rsO H (by (repeat first | exact At.here | apply At.there); done) | exact (Rs.nil : Rs Non _ _ _)) | (simp only [List.all_cons, List.all_nil, Bool.and_true, Bool.and_eq_true, Row.cells, Cm.L, Rq.L, Tp.L, Bat.L]; (repeat' constructor) <;> first | rfl | assumption | exact Rs.oneC (by first | assumption | exact SH.rsR H (by (repeat first | exact At.here | apply At.there); done) | exact SH.rsO H (by (repeat first | exact At.here | apply At.there); done) | exact (Rs.nil : Rs Non _ _ _)))) (by (repeat first | exact At.here | apply At.there); done) (by first | (simp; done) | decide | (show _ ≤ _; decide)) ?_
      clear H
      intro w2_1 H
      try dsimp only [replC, List.cons_append, List.nil_append, List.append_nil, agg, cellsL, Value.cells, List.toList_toArray, List.set_cons_zero, List.set_cons_succ, spliceL, List.take_succ_cons, List.take_zero, List.drop_succ_cons, List.drop_zero, List.length_cons, List.length_nil, Nat.reduceAdd, Row.cells, Cm.L, Rq.L, Tp.L, Bat.L] at H
      refine LW.nil ?_
      refine thenE_norm (h5 _ _ ?_); clear h5; try clear K5
      refine CW.ret (thenE_ret (retC1 Try.results16 (by simp only [upd_get, ev, Nat.reduceEqDiff, ↓reduceIte] <;> rfl) Try.isAgg27 Try.sizeOf27 (by exact SH.cells H (by (repeat first | exact At.here | apply At.there); done)) (by rfl) ?_))
      have hfl : batN ns = fillB := by
        first
          | exact batN_short (by simp at hg1_4; omega)
          | exact batN_full (by simp at hg1_4; omega) hc1
      rw [hfl]
      exact ⟨_, none, rfl, rfl, nil_small, SH.give (H.addO (α := Rq) 32) (by repeat first | exact List.Sublist.refl _ | exact List.nil_sublist _ | apply List.Sublist.cons_cons | apply List.Sublist.cons) ⟨trivial, trivial⟩⟩
    · try simp only [decide_eq_true_eq, decide_eq_false_iff_not, Bool.and_eq_true, Bool.or_eq_true, Bool.and_eq_false_iff, Bool.or_eq_false_iff, Bool.not_eq_true', Bool.not_eq_false', beq_iff_eq, bne_iff_ne, ne_eq, Decidable.not_not] at hc1
      have h4 : 4 ≤ ns.length := by
        first
          | exact Bool.noConfusion hc1
          | exact absurd rfl hc1
          | (simp at hg1_4; omega)
      obtain ⟨x0, hx0⟩ := get_of_lt (show 0 < ns.length by omega)
      obtain ⟨x1, hx1⟩ := get_of_lt (show 1 < ns.length by omega)
      obtain ⟨x2, hx2⟩ := get_of_lt (show 2 < ns.length by omega)
      obtain ⟨x3, hx3⟩ := get_of_lt (show 3 < ns.length by omega)
      have b0 := x0.toNat_lt
      have b1 := x1.toNat_lt
      have b2 := x2.toNat_lt
      have b3 := x3.toNat_lt
      have hgo := batN_go hx0 hx1 hx2 hx3 (by
        rw [List.getElem?_eq_getElem (show 0 < ns.length by omega)] at hx0
        have e0 := Option.some.inj hx0
        rw [← e0]
        first
          | exact Bool.noConfusion hc1
          | (intro q; exact hc1 (by rw [q]; rfl))
          | (intro q; omega))
      refine CW.skip ?_
      refine thenE_norm (h2 _ _ ?_); clear h2; try clear K2
      refine CW.seq (fun K6 h6 => ?_)
      refine CW.drawH [22] H (List.Sublist.refl _) (by kernel_rfl) rfl ?_
      clear H
      intro w3d H
      refine DL.take (i := 0) [0, 1, 2, 3, 4, 10, 20, 22] rfl (by kernel_rfl) (by kernel_rfl) (by kernel_rfl) (by kernel_rfl) rfl rfl (fun u H => x_move ) H ?_
      refine DL.take (i := 1) [1, 2, 3, 4, 10, 20, 22] rfl (by kernel_rfl) (by kernel_rfl) (by kernel_rfl) (by kernel_rfl) rfl rfl (fun u H => x_indexAddrV Try.underlying22 (by simp only [upd_get, ev, Nat.reduceEqDiff, ↓reduceIte] <;> rfl) rfl (by first | assumption | exact SH.rsR H (by (repeat first | exact At.here | apply At.there); done) | exact SH.rsO H (by (repeat first | exact At.here | apply At.there); done) | exact (Rs.nil : Rs Non _ _ _)) (by exact Try.sizeOf5) (by omega) (by omega)) H ?_
      refine DL.take (i := 2) [2, 3, 4, 10, 20, 22] rfl (by kernel_rfl) (by kernel_rfl) (by kernel_rfl) (by kernel_rfl) rfl rfl (fun u H => x_load Try.isAgg5 rfl (by first | exact Rs.cell (by first | assumption | exact SH.rsR H (by (repeat first | exact At.here | apply At.there); done) | exact SH.rsO H (by (repeat first | exact At.here | apply At.there); done) | exact (Rs.nil : Rs Non _ _ _)) (by assumption) (by rfl) | exact Rs.cell0 (by first | assumption | exact SH.rsR H (by (repeat first | exact At.here | apply At.there); done) | exact SH.rsO H (by (repeat first | exact At.here | apply At.there); done) | exact (Rs.nil : Rs Non _ _ _)) (by assumption) (by rfl) | assumption)) H ?_
      refine DL.take (i := 3) [3, 4, 10, 20, 22] rfl (by kernel_rfl) (by kernel_rfl) (by kernel_rfl) (by kernel_rfl) rfl rfl (fun u H => x_convI Try.underlying5 Try.underlying3 rfl (wr_i64 (by omega) (by omega))) H ?_
      refine DL.take (i := 4) [4, 10, 20, 22] rfl (by kernel_rfl) (by kernel_rfl) (by kernel_rfl) (by kernel_rfl) rfl rfl (fun u H => x_rem rfl rfl (by omega) (by omega) (wr_i64 (by omega) (by omega))) H ?_
      refine DL.take (i := 5) [5, 6, 7, 8, 9, 10, 20, 22] rfl (by kernel_rfl) (by kernel_rfl) (by kernel_rfl) (by kernel_rfl) rfl rfl (fun u H => x_move ) H ?_
      refine DL.take (i := 6) [6, 7, 8, 9, 10, 20, 22] rfl (by kernel_rfl) (by kernel_rfl) (by kernel_rfl) (by kernel_rfl) rfl rfl (fun u H => x_indexAddrV Try.underlying22 (by simp only [upd_get, ev, Nat.reduceEqDiff, ↓reduceIte] <;> rfl) rfl (by first | assumption | exact SH.rsR H (by (repeat first | exact At.here | apply At.there); done) | exact SH.rsO H (by (repeat first | exact At.here | apply At.there); done) | exact (Rs.nil : Rs Non _ _ _)) (by exact Try.sizeOf5) (by omega) (by omega)) H ?_
      refine DL.take (i := 7) [7, 8, 9, 10, 20, 22] rfl (by kernel_rfl) (by kernel_rfl) (by kernel_rfl) (by kernel_rfl) rfl rfl (fun u H => x_load Try.isAgg5 rfl (by first | exact Rs.cell (by first | assumption | exact SH.rsR H (by (repeat first | exact At.here | apply At.there); done) | exact SH.rsO H (by (repeat first | exact At.here | apply At.there); done) | exact (Rs.nil : Rs Non _ _ _)) (by assumption) (by rfl) | exact Rs.cell0 (by first | assumption | exact SH.rsR H (by (repeat first | exact At.here | apply At.there); done) | exact SH.rsO H (by (repeat first | exact At.here | apply At.there); done) | exact (Rs.nil : Rs Non _ _ _)) (by assumption) (by rfl) | assumption)) H ?_
      refine DL.take (i := 8) [8, 9, 10, 20, 22] rfl (by kernel_rfl) (by kernel_rfl) (by kernel_rfl) (by kernel_rfl) rfl rfl (fun u H => x_convI Try.underlying5 Try.underlying3 rfl (wr_i64 (by omega) (by omega))) H ?_
      refine DL.take (i := 9) [9, 10, 20, 22] rfl (by kernel_rfl) (by kernel_rfl) (by kernel_rfl) (by kernel_rfl) rfl rfl (fun u H => x_rem rfl rfl (by omega) (by omega) (wr_i64 (by omega) (by omega))) H ?_
      refine DL.take (i := 10) [10, 20, 22] rfl (by kernel_rfl) (by kernel_rfl) (by kernel_rfl) (by kernel_rfl) rfl rfl (fun u H => x_buildQ Try.underlying24 Try.zeroValue24 rfl (pl := [(0, 1), (1, 1)]) (by intro w; simp [go_sem]) (qs := [(0, [_]), (1, [_])]) (cs := [_, _]) ⟨rfl, cells_one (by simp only [upd_get, ev, Nat.reduceEqDiff, ↓reduceIte] <;> rfl) (by first | rfl | exact Rs.oneC (by first | assumption | exact SH.rsR H (by (repeat first | exact At.here | apply At.there); done) | exact SH.rsO H (by (repeat first | exact At.here | apply At.there); done) | exact (Rs.nil : Rs Non _ _ _))), rfl, cells_one (by simp only [upd_get, ev, Nat.reduceEqDiff, ↓reduceIte] <;> rfl) (by first | rfl | exact Rs.oneC (by first | assumption | exact SH.rsR H (by (repeat first | exact At.here | apply At.there); done) | exact SH.rsO H (by (repeat first | exact At.here | apply At.there); done) | exact (Rs.nil : Rs Non _ _ _))), trivial⟩ rfl) H ?_
      refine DL.take (i := 11) [11, 12, 13, 14, 15, 20, 22] rfl (by kernel_rfl) (by kernel_rfl) (by kernel_rfl) (by kernel_rfl) rfl rfl (fun u H => x_move ) H ?_
      refine DL.take (i := 12) [12, 13, 14, 15, 20, 22] rfl (by kernel_rfl) (by kernel_rfl) (by kernel_rfl) (by kernel_rfl) rfl rfl (fun u H => x_indexAddrV Try.underlying22 (by simp only [upd_get, ev, Nat.reduceEqDiff, ↓reduceIte] <;> rfl) rfl (by first | assumption | exact SH.rsR H (by (repeat first | exact At.here | apply At.there); done) | exact SH.rsO H (by (repeat first | exact At.here | apply At.there); done) | exact (Rs.nil : Rs Non _ _ _)) (by exact Try.sizeOf5) (by omega) (by omega)) H ?_
      refine DL.take (i := 13) [13, 14, 15, 20, 22] rfl (by kernel_rfl) (by kernel_rfl) (by kernel_rfl) (by kernel_rfl) rfl rfl (fun u H => x_load Try.isAgg5 rfl (by first | exact Rs.cell (by first | assumption | exact SH.rsR H (by (repeat first | exact At.here | apply At.there); done) | exact SH.rsO H (by (repeat first | exact At.here | apply At.there); done) | exact (Rs.nil : Rs Non _ _ _)) (by assumption) (by rfl) | exact Rs.cell0 (by first | assumption | exact SH.rsR H (by (repeat first | exact At.here | apply At.there); done) | exact SH.rsO H (by (repeat first | exact At.here | apply At.there); done) | exact (Rs.nil : Rs Non _ _ _)) (by assumption) (by rfl) | assumption)) H ?_
      refine DL.take (i := 14) [14, 15, 20, 22] rfl (by kernel_rfl) (by kernel_rfl) (by kernel_rfl) (by kernel_rfl) rfl rfl (fun u H => x_convI Try.underlying5 Try.underlying3 rfl (wr_i64 (by omega) (by omega))) H ?_
      refine DL.take (i := 15) [15, 20, 22] rfl (by kernel_rfl) (by kernel_rfl) (by kernel_rfl) (by kernel_rfl) rfl rfl (fun u H => x_rem rfl rfl (by omega) (by omega) (wr_i64 (by omega) (by omega))) H ?_
      refine DL.take (i := 16) [16, 17, 18, 19, 20, 22] rfl (by kernel_rfl) (by kernel_rfl) (by kernel_rfl) (by kernel_rfl) rfl rfl (fun u H => x_move ) H ?_
      refine DL.take (i := 17) [17, 18, 19, 20, 22] rfl (by kernel_rfl) (by kernel_rfl) (by kernel_rfl) (by kernel_rfl) rfl rfl (fun u H => x_indexAddrV Try.underlying22 (by simp only [upd_get, ev, Nat.reduceEqDiff, ↓reduceIte] <;> rfl) rfl (by first | assumption | exact SH.rsR H (by (repeat first | exact At.here | apply At.there); done) | exact SH.rsO H (by (repeat first | exact At.here | apply At.there); done) | exact (Rs.nil : Rs Non _ _ _)) (by exact Try.sizeOf5) (by omega) (by omega)) H ?_
      refine DL.take (i := 18) [18, 19, 20, 22] rfl (by kernel_rfl) (by kernel_rfl) (by kernel_rfl) (by kernel_rfl) rfl rfl (fun u H => x_load Try.isAgg5 rfl (by first | exact Rs.cell (by first | assumption | exact SH.rsR H (by (repeat first | exact At.here | apply At.there); done) | exact SH.rsO H (by (repeat first | exact At.here | apply At.there); done) | exact (Rs.nil : Rs Non _ _ _)) (by assumption) (by rfl) | exact Rs.cell0 (by first | assumption | exact SH.rsR H (by (repeat first | exact At.here | apply At.there); done) | exact SH.rsO H (by (repeat first | exact At.here | apply At.there); done) | exact (Rs.nil : Rs Non _ _ _)) (by assumption) (by rfl) | assumption)) H ?_
      refine DL.take (i := 19) [19, 20, 22] rfl (by kernel_rfl) (by kernel_rfl) (by kernel_rfl) (by kernel_rfl) rfl rfl (fun u H => x_convI Try.underlying5 Try.underlying3 rfl (wr_i64 (by omega) (by omega))) H ?_
      refine DL.take (i := 20) [20, 22] rfl (by kernel_rfl) (by kernel_rfl) (by kernel_rfl) (by kernel_rfl) rfl rfl (fun u H => x_buildQ Try.underlying27 Try.zeroValue27 rfl (pl := [(0, 1), (1, 1), (2, 2), (4, 1), (5, 1)]) (by intro w; simp [go_sem]) (qs := [(2, [_, _]), (1, [_]), (3, [_])]) (cs := [.bool false, _, _, _, _, .slice none 0 0]) ⟨rfl, (by simp only [upd_get, ev, Nat.reduceEqDiff, ↓reduceIte, cellsL, agg, List.toList_toArray, Row.cells, Cm.L, Rq.L, Tp.L, Bat.L] <;> rfl), rfl, cells_one (by simp only [upd_get, ev, Nat.reduceEqDiff, ↓reduceIte] <;> rfl) (by first | rfl | exact Rs.oneC (by first | assumption | exact SH.rsR H (by (repeat first | exact At.here | apply At.there); done) | exact SH.rsO H (by (repeat first | exact At.here | apply At.there); done) | exact (Rs.nil : Rs Non _ _ _))), rfl, cells_one (by simp only [upd_get, ev, Nat.reduceEqDiff, ↓reduceIte] <;> rfl) (by first | rfl | exact Rs.oneC (by first | assumption | exact SH.rsR H (by (repeat first | exact At.here | apply At.there); done) | exact SH.rsO H (by (repeat first | exact At.here | apply At.there); done) | exact (Rs.nil : Rs Non _ _ _))), trivial⟩ rfl) H ?_
      refine DL.one (i := 21) (by kernel_rfl) rfl rfl ?_
      refine s_alloc (cs := [.bool false, .int .i64 0, .int .i64 0, .int .i64 0, .int .i64 0, .slice none 0 0]) H rfl Try.zeroValue27 rfl ?_
      clear H
      intro b3_21 w3_21 H
      try dsimp only [replC, List.cons_append, List.nil_append, List.append_nil, agg, cellsL, Value.cells, List.toList_toArray, List.set_cons_zero, List.set_cons_succ, spliceL, List.take_succ_cons, List.take_zero, List.drop_succ_cons, List.drop_zero, List.length_cons, List.length_nil, Nat.reduceAdd, Row.cells, Cm.L, Rq.L, Tp.L, Bat.L] at H
      refine LW.nil (thenE_norm ⟨fun _ => (SH.sub H (by repeat first | exact List.Sublist.refl _ | exact List.nil_sublist _ | apply List.Sublist.cons_cons | apply List.Sublist.cons)), ?_⟩)
      refine DL.one (i := 22) (by kernel_rfl) rfl rfl ?_
      refine s_storeA H Try.sizeOf27 rfl (by simp only [upd_get, ev, Nat.reduceEqDiff, ↓reduceIte] <;> rfl) (by simp only [cellsL, agg, List.toList_toArray, Row.cells, Cm.L, Rq.L, Tp.L, Bat.L] <;> rfl) (by rfl) (by first | rfl | assumption | exact Rs.oneC (by first | assumption | exact SH.rsR H (by (repeat first | exact At.here | apply At.there); done) | exact SH.rsO H (by (repeat first | exact At.here | apply At.there); done) | exact (Rs.nil : Rs Non _ _ _)) | (simp only [List.all_cons, List.all_nil, Bool.and_true, Bool.and_eq_true, Row.cells, Cm.L, Rq.L, Tp.L, Bat.L]; (repeat' constructor) <;> first | rfl | assumption | exact Rs.oneC (by first | assumption | exact SH.rsR H (by (repeat first | exact At.here | apply At.there); done) | exact SH.rsO H (by (repeat first | exact At.here | apply At.there); done) | exact (Rs.nil : Rs Non _ _ _)))) (by (repeat first | exact At.here | apply At.there); done) (by first | (simp; done) | decide | (show _ ≤ _; decide)) ?_
      clear H
      intro w3_22 H
      try dsimp only [replC, List.cons_append, List.nil_append, List.append_nil, agg, cellsL, Value.cells, List.toList_toArray, List.set_cons_zero, List.set_cons_succ, spliceL, List.take_succ_cons, List.take_zero, List.drop_succ_cons, List.drop_zero, List.length_cons, List.length_nil, Nat.reduceAdd, Row.cells, Cm.L, Rq.L, Tp.L, Bat.L] at H
      refine LW.nil (thenE_norm ⟨fun h => Bool.noConfusion (show true = false from h), ?_⟩)
      refine DL.done (by kernel_rfl) ?_
      refine thenE_norm ?_
      refine cut (K := K6) [0, 2, 3] (fun σ => ?_)
      simp only [setL, keepE, upd_get, ev, Nat.reduceEqDiff, ↓reduceIte]
      refine h6 _ _ ?_; clear h6; try clear K6
      refine CW.seq (fun K7 h7 => ?_)
      refine CW.seq (fun K8 h8 => ?_)
      refine CW.region ?_
      refine r_assign rfl ?_
      refine LW.nil ?_
      refine thenE_norm (h8 _ _ ?_); clear h8; try clear K8
      refine CW.block ?_
      refine CW.loopR [0, 2, 3] [4] (fun m vs w' => ∃ (i : Nat) (u : Value) (rs : List Rq) (g : Option Nat), vs = [.int .i64 i] ∧ m = ns.length - i ∧ mayQ rs = true ∧ rs.length ≤ 3 ∧ smallQ rs ∧ i ≤ ns.length + 5 ∧ rsN (ns.drop i) rs = rsN (ns.drop 4) [] ∧ SH Non Any w w' [.R (Old w) v ns, .B b0_0 27 [.bool false, .int .i64 0, .int .i64 0, .int .i64 0, .int .i64 0, .slice none 0 0], .B b3_21 27 [.bool false, .int .i64 ((x2.toNat : Int) % 8), .int .i64 ((x0.toNat : Int) % 4), .int .i64 ((x1.toNat : Int) % 6), .int .i64 (x3.toNat : Int), u], .O 32 u rs g]) (ns.length - 4) ?_ ?_
      · exact ⟨4, .slice none 0 0, [], none, rfl, rfl, rfl, by decide, nil_small, by omega, rfl, H.addO (α := Rq) 32⟩
      try clear H
      rintro n1 vs1 wL1 σ ⟨i, u, rs, g, rfl, rfl, hmq, hr3, hsm, hi, hrn, H⟩
      simp only [setL, keepE, upd_get, ev, Nat.reduceEqDiff, ↓reduceIte]
      refine CW.seq (fun K9 h9 => ?_)
      refine CW.seq (fun K10 h10 => ?_)
      refine CW.region ?_
      refine r_move rfl ?_
      refine r_add rfl rfl rfl (wr_i64 (by omega) (by omega)) ?_
      refine r_move rfl ?_
      first
        | refine r_lenV rfl Try.underlying22 (by simp only [upd_get, ev, Nat.reduceEqDiff, ↓reduceIte] <;> rfl) (by first | assumption | exact SH.rsR H (by (repeat first | exact At.here | apply At.there); done) | exact SH.rsO H (by (repeat first | exact At.here | apply At.there); done) | exact (Rs.nil : Rs Non _ _ _)) ?_
        | refine r_len rfl Try.underlying22 rfl ?_
      refine r_lss rfl rfl rfl ?_
      refine r_move rfl ?_
      refine' LW.grpAnd (n := 5) (ts := [0, 2, 3, 4]) (d := 49) (tj := 44) rfl (fun hg5_6 => ?_) (fun hg5_6 => ?_) (fun σ => ?_)
      rotate_left
      · simp only [List.take_succ_cons, List.take_zero]
        have hg5_6P := hg5_6
        try simp only [decide_eq_true_eq, decide_eq_false_iff_not, Bool.and_eq_true, Bool.or_eq_true, Bool.and_eq_false_iff, Bool.or_eq_false_iff, Bool.not_eq_true', Bool.not_eq_false', beq_iff_eq, bne_iff_ne] at hg5_6P
        refine LW.want rfl rfl hg5_6 ?_
        refine r_fieldAddrO rfl Try.underlying27 rfl Try.sizeOf25 (by decide) (show _ = 5 from rfl) rfl ?_
        refine LW.want rfl rfl hg5_6 ?_
        refine r_load rfl Try.isAgg25 rfl (by first | exact SH.cellB H (by (repeat first | exact At.here | apply At.there); done) (by rfl) | assumption) ?_
        refine LW.want rfl rfl hg5_6 ?_
        first
          | refine r_lenV rfl Try.underlying25 (by simp only [upd_get, ev, Nat.reduceEqDiff, ↓reduceIte] <;> rfl) (by first | assumption | exact SH.rsR H (by (repeat first | exact At.here | apply At.there); done) | exact SH.rsO H (by (repeat first | exact At.here | apply At.there); done) | exact (Rs.nil : Rs Non _ _ _)) ?_
          | refine r_len rfl Try.underlying25 rfl ?_
        refine LW.want rfl rfl hg5_6 ?_
        refine r_lss rfl rfl rfl ?_
        refine r_pickT rfl rfl hg5_6 ?_
        refine LW.nil (thenE_norm ⟨rfl, rfl, rfl⟩)
      · simp only [List.take_succ_cons, List.take_zero]
        refine LW.skip rfl (fun _ e => by cases e; decide) rfl hg5_6 ?_
        refine LW.skip rfl (fun _ e => by cases e; decide) rfl hg5_6 ?_
        refine LW.skip rfl (fun _ e => by cases e; decide) rfl hg5_6 ?_
        refine LW.skip rfl (fun _ e => by cases e; decide) rfl hg5_6 ?_
        refine r_pickF rfl rfl hg5_6 ?_
        refine LW.nil (thenE_norm ⟨rfl, rfl, rfl⟩)
      simp only [setL, keepE, upd_get, ev, Nat.reduceEqDiff, ↓reduceIte]; simp only [List.drop_succ_cons, List.drop_zero]
      refine LW.nil ?_
      refine thenE_norm (h10 _ _ ?_); clear h10; try clear K10
      refine CW.cond rfl (fun hc2 => ?_) (fun hc2 => ?_)
      · try simp only [decide_eq_true_eq, decide_eq_false_iff_not, Bool.and_eq_true, Bool.or_eq_true, Bool.and_eq_false_iff, Bool.or_eq_false_iff, Bool.not_eq_true', Bool.not_eq_false', beq_iff_eq, bne_iff_ne, ne_eq, Decidable.not_not] at hc2
        refine CW.skip ?_
        refine thenE_norm (h9 _ _ ?_); clear h9; try clear K9
        refine CW.seq (fun K11 h11 => ?_)
        refine CW.block ?_
        refine CW.seq (fun K12 h12 => ?_)
        obtain ⟨y0, hy0⟩ := get_of_lt (show i < ns.length by omega)
        obtain ⟨y1, hy1⟩ := get_of_lt (show i + 1 < ns.length by omega)
        obtain ⟨y2, hy2⟩ := get_of_lt (show i + 2 < ns.length by omega)
        obtain ⟨y3, hy3⟩ := get_of_lt (show i + 3 < ns.length by omega)
        obtain ⟨y4, hy4⟩ := get_of_lt (show i + 4 < ns.length by omega)
        have d0 := y0.toNat_lt
        have d1 := y1.toNat_lt
        have d2 := y2.toNat_lt
        have d3 := y3.toNat_lt
        have d4 := y4.toNat_lt
        rw [drop_5 hy0 hy1 hy2 hy3 hy4, rsN, if_pos (by omega)] at hrn
        refine CW.drawH [26] H (List.Sublist.refl _) (by kernel_rfl) rfl ?_
        clear H
        intro w7d H
        refine DL.take (i := 0) [0, 2, 3, 24, 26] rfl (by kernel_rfl) (by kernel_rfl) (by kernel_rfl) (by kernel_rfl) rfl rfl (fun u H => x_move ) H ?_
        refine DL.take (i := 1) [1, 2, 3, 24, 26] rfl (by kernel_rfl) (by kernel_rfl) (by kernel_rfl) (by kernel_rfl) rfl rfl (fun u H => x_move ) H ?_
        refine DL.take (i := 2) [2, 3, 24, 26] rfl (by kernel_rfl) (by kernel_rfl) (by kernel_rfl) (by kernel_rfl) rfl rfl (fun u H => x_indexAddrV Try.underlying22 (by simp only [upd_get, ev, Nat.reduceEqDiff, ↓reduceIte] <;> rfl) rfl (by first | assumption | exact SH.rsR H (by (repeat first | exact At.here | apply At.there); done) | exact SH.rsO H (by (repeat first | exact At.here | apply At.there); done) | exact (Rs.nil : Rs Non _ _ _)) (by exact Try.sizeOf5) (by omega) (by omega)) H ?_
        refine DL.take (i := 3) [3, 24, 26] rfl (by kernel_rfl) (by kernel_rfl) (by kernel_rfl) (by kernel_rfl) rfl rfl (fun u H => x_load Try.isAgg5 rfl (by first | exact Rs.cell (by first | assumption | exact SH.rsR H (by (repeat first | exact At.here | apply At.there); done) | exact SH.rsO H (by (repeat first | exact At.here | apply At.there); done) | exact (Rs.nil : Rs Non _ _ _)) (by assumption) (by rfl) | exact Rs.cell0 (by first | assumption | exact SH.rsR H (by (repeat first | exact At.here | apply At.there); done) | exact SH.rsO H (by (repeat first | exact At.here | apply At.there); done) | exact (Rs.nil : Rs Non _ _ _)) (by assumption) (by rfl) | assumption)) H ?_
        refine DL.take (i := 4) [4, 7, 8, 24, 26] rfl (by kernel_rfl) (by kernel_rfl) (by kernel_rfl) (by kernel_rfl) rfl rfl (fun u H => x_move ) H ?_
        refine DL.take (i := 5) [5, 6, 7, 8, 24, 26] rfl (by kernel_rfl) (by kernel_rfl) (by kernel_rfl) (by kernel_rfl) rfl rfl (fun u H => x_move ) H ?_
        refine DL.take (i := 6) [6, 7, 8, 24, 26] rfl (by kernel_rfl) (by kernel_rfl) (by kernel_rfl) (by kernel_rfl) rfl rfl (fun u H => x_add rfl rfl (wr_i64 (by omega) (by omega))) H ?_
        refine DL.take (i := 7) [7, 8, 24, 26] rfl (by kernel_rfl) (by kernel_rfl) (by kernel_rfl) (by kernel_rfl) rfl rfl (fun u H => x_indexAddrV Try.underlying22 (by simp only [upd_get, ev, Nat.reduceEqDiff, ↓reduceIte] <;> rfl) rfl (by first | assumption | exact SH.rsR H (by (repeat first | exact At.here | apply At.there); done) | exact SH.rsO H (by (repeat first | exact At.here | apply At.there); done) | exact (Rs.nil : Rs Non _ _ _)) (by exact Try.sizeOf5) (by omega) (by omega)) H ?_
        refine DL.take (i := 8) [8, 24, 26] rfl (by kernel_rfl) (by kernel_rfl) (by kernel_rfl) (by kernel_rfl) rfl rfl (fun u H => x_load Try.isAgg5 rfl (by first | exact Rs.cell (by first | assumption | exact SH.rsR H (by (repeat first | exact At.here | apply At.there); done) | exact SH.rsO H (by (repeat first | exact At.here | apply At.there); done) | exact (Rs.nil : Rs Non _ _ _)) (by assumption) (by rfl) | exact Rs.cell0 (by first | assumption | exact SH.rsR H (by (repeat first | exact At.here | apply At.there); done) | exact SH.rsO H (by (repeat first | exact At.here | apply At.there); done) | exact (Rs.nil : Rs Non _ _ _)) (by assumption) (by rfl) | assumption)) H ?_
        refine DL.take (i := 9) [9, 12, 13, 24, 26] rfl (by kernel_rfl) (by kernel_rfl) (by kernel_rfl) (by kernel_rfl) rfl rfl (fun u H => x_move ) H ?_
        refine DL.take (i := 10) [10, 11, 12, 13, 24, 26] rfl (by kernel_rfl) (by kernel_rfl) (by kernel_rfl) (by kernel_rfl) rfl rfl (fun u H => x_move ) H ?_
        refine DL.take (i := 11) [11, 12, 13, 24, 26] rfl (by kernel_rfl) (by kernel_rfl) (by kernel_rfl) (by kernel_rfl) rfl rfl (fun u H => x_add rfl rfl (wr_i64 (by omega) (by omega))) H ?_
        refine DL.take (i := 12) [12, 13, 24, 26] rfl (by kernel_rfl) (by kernel_rfl) (by kernel_rfl) (by kernel_rfl) rfl rfl (fun u H => x_indexAddrV Try.underlying22 (by simp only [upd_get, ev, Nat.reduceEqDiff, ↓reduceIte] <;> rfl) rfl (by first | assumption | exact SH.rsR H (by (repeat first | exact At.here | apply At.there); done) | exact SH.rsO H (by (repeat first | exact At.here | apply At.there); done) | exact (Rs.nil : Rs Non _ _ _)) (by exact Try.sizeOf5) (by omega) (by omega)) H ?_
        refine DL.take (i := 13) [13, 24, 26] rfl (by kernel_rfl) (by kernel_rfl) (by kernel_rfl) (by kernel_rfl) rfl rfl (fun u H => x_load Try.isAgg5 rfl (by first | exact Rs.cell (by first | assumption | exact SH.rsR H (by (repeat first | exact At.here | apply At.there); done) | exact SH.rsO H (by (repeat first | exact At.here | apply At.there); done) | exact (Rs.nil : Rs Non _ _ _)) (by assumption) (by rfl) | exact Rs.cell0 (by first | assumption | exact SH.rsR H (by (repeat first | exact At.here | apply At.there); done) | exact SH.rsO H (by (repeat first | exact At.here | apply At.there); done) | exact (Rs.nil : Rs Non _ _ _)) (by assumption) (by rfl) | assumption)) H ?_
        refine DL.take (i := 14) [14, 17, 18, 24, 26] rfl (by kernel_rfl) (by kernel_rfl) (by kernel_rfl) (by kernel_rfl) rfl rfl (fun u H => x_move ) H ?_
        refine DL.take (i := 15) [15, 16, 17, 18, 24, 26] rfl (by kernel_rfl) (by kernel_rfl) (by kernel_rfl) (by kernel_rfl) rfl rfl (fun u H => x_move ) H ?_
        refine DL.take (i := 16) [16, 17, 18, 24, 26] rfl (by kernel_rfl) (by kernel_rfl) (by kernel_rfl) (by kernel_rfl) rfl rfl (fun u H => x_add rfl rfl (wr_i64 (by omega) (by omega))) H ?_
        refine DL.take (i := 17) [17, 18, 24, 26] rfl (by kernel_rfl) (by kernel_rfl) (by kernel_rfl) (by kernel_rfl) rfl rfl (fun u H => x_indexAddrV Try.underlying22 (by simp only [upd_get, ev, Nat.reduceEqDiff, ↓reduceIte] <;> rfl) rfl (by first | assumption | exact SH.rsR H (by (repeat first | exact At.here | apply At.there); done) | exact SH.rsO H (by (repeat first | exact At.here | apply At.there); done) | exact (Rs.nil : Rs Non _ _ _)) (by exact Try.sizeOf5) (by omega) (by omega)) H ?_
        refine DL.take (i := 18) [18, 24, 26] rfl (by kernel_rfl) (by kernel_rfl) (by kernel_rfl) (by kernel_rfl) rfl rfl (fun u H => x_load Try.isAgg5 rfl (by first | exact Rs.cell (by first | assumption | exact SH.rsR H (by (repeat first | exact At.here | apply At.there); done) | exact SH.rsO H (by (repeat first | exact At.here | apply At.there); done) | exact (Rs.nil : Rs Non _ _ _)) (by assumption) (by rfl) | exact Rs.cell0 (by first | assumption | exact SH.rsR H (by (repeat first | exact At.here | apply At.there); done) | exact SH.rsO H (by (repeat first | exact At.here | apply At.there); done) | exact (Rs.nil : Rs Non _ _ _)) (by assumption) (by rfl) | assumption)) H ?_
        refine DL.take (i := 19) [19, 22, 23, 24, 26] rfl (by kernel_rfl) (by kernel_rfl) (by kernel_rfl) (by kernel_rfl) rfl rfl (fun u H => x_move ) H ?_
        refine DL.take (i := 20) [20, 21, 22, 23, 24, 26] rfl (by kernel_rfl) (by kernel_rfl) (by kernel_rfl) (by kernel_rfl) rfl rfl (fun u H => x_move ) H ?_
        refine DL.take (i := 21) [21, 22, 23, 24, 26] rfl (by kernel_rfl) (by kernel_rfl) (by kernel_rfl) (by kernel_rfl) rfl rfl (fun u H => x_add rfl rfl (wr_i64 (by omega) (by omega))) H ?_
        refine DL.take (i := 22) [22, 23, 24, 26] rfl (by kernel_rfl) (by kernel_rfl) (by kernel_rfl) (by kernel_rfl) rfl rfl (fun u H => x_indexAddrV Try.underlying22 (by simp only [upd_get, ev, Nat.reduceEqDiff, ↓reduceIte] <;> rfl) rfl (by first | assumption | exact SH.rsR H (by (repeat first | exact At.here | apply At.there); done) | exact SH.rsO H (by (repeat first | exact At.here | apply At.there); done) | exact (Rs.nil : Rs Non _ _ _)) (by exact Try.sizeOf5) (by omega) (by omega)) H ?_
        refine DL.take (i := 23) [23, 24, 26] rfl (by kernel_rfl) (by kernel_rfl) (by kernel_rfl) (by kernel_rfl) rfl rfl (fun u H => x_load Try.isAgg5 rfl (by first | exact Rs.cell (by first | assumption | exact SH.rsR H (by (repeat first | exact At.here | apply At.there); done) | exact SH.rsO H (by (repeat first | exact At.here | apply At.there); done) | exact (Rs.nil : Rs Non _ _ _)) (by assumption) (by rfl) | exact Rs.cell0 (by first | assumption | exact SH.rsR H (by (repeat first | exact At.here | apply At.there); done) | exact SH.rsO H (by (repeat first | exact At.here | apply At.there); done) | exact (Rs.nil : Rs Non _ _ _)) (by assumption) (by rfl) | assumption)) H ?_
        refine DL.two (i := 24) (j := 25) (by kernel_rfl) ?_ ?_
        · refine LOp.of rfl rfl ?_
          refine r_call rfl Try.call17 (by simp only [List.map_cons, List.map_nil, List.map_toArray, List.toList_toArray, upd_get, ev, Nat.reduceEqDiff, ↓reduceIte] <;> rfl) (ReqS_c _ _ _ _ _ _ (by omega) (by omega) (by omega) (by omega) (by omega)) ?_
          rintro _ w7_24 ⟨rfl, X⟩
          refine ⟨_, rfl, ?_⟩
          replace H := SH.same H X
          clear X
          refine LW.nil (thenE_norm ⟨fun _ => (SH.sub H (by repeat first | exact List.Sublist.refl _ | exact List.nil_sublist _ | apply List.Sublist.cons_cons | apply List.Sublist.cons)), ?_⟩)
          refine DL.one (i := 25) (by kernel_rfl) rfl rfl ?_
          refine s_alloc (cs := [.int .i64 0, .int .i64 0, .int .i64 0, .int .i64 0, .string (ByteArray.mk #[])]) H rfl Try.zeroValue32 rfl ?_
          clear H
          intro b7_25 w7_25 H
          try dsimp only [replC, List.cons_append, List.nil_append, List.append_nil, agg, cellsL, Value.cells, List.toList_toArray, List.set_cons_zero, List.set_cons_succ, spliceL, List.take_succ_cons, List.take_zero, List.drop_succ_cons, List.drop_zero, List.length_cons, List.length_nil, Nat.reduceAdd, Row.cells, Cm.L, Rq.L, Tp.L, Bat.L] at H
          refine LW.nil (thenE_norm ⟨fun _ => (SH.sub H (by repeat first | exact List.Sublist.refl _ | exact List.nil_sublist _ | apply List.Sublist.cons_cons | apply List.Sublist.cons)), ?_⟩)
          refine DL.one (i := 26) (by kernel_rfl) rfl rfl ?_
          refine s_storeA H Try.sizeOf32 rfl (by simp only [upd_get, ev, Nat.reduceEqDiff, ↓reduceIte] <;> rfl) (by simp only [cellsL, agg, List.toList_toArray, Row.cells, Cm.L, Rq.L, Tp.L, Bat.L] <;> rfl) (by rfl) (by first | rfl | assumption | exact Rs.oneC (by first | assumption | exact SH.rsR H (by (repeat first | exact At.here | apply At.there); done) | exact SH.rsO H (by (repeat first | exact At.here | apply At.there); done) | exact (Rs.nil : Rs Non _ _ _)) | (simp only [List.all_cons, List.all_nil, Bool.and_true, Bool.and_eq_true, Row.cells, Cm.L, Rq.L, Tp.L, Bat.L]; (repeat' constructor) <;> first | rfl | assumption | exact Rs.oneC (by first | assumption | exact SH.rsR H (by (repeat first | exact At.here | apply At.there); done) | exact SH.rsO H (by (repeat first | exact At.here | apply At.there); done) | exact (Rs.nil : Rs Non _ _ _)))) (by (repeat first | exact At.here | apply At.there); done) (by first | (simp; done) | decide | (show _ ≤ _; decide)) ?_
          clear H
          intro w7_26 H
          try dsimp only [replC, List.cons_append, List.nil_append, List.append_nil, agg, cellsL, Value.cells, List.toList_toArray, List.set_cons_zero, List.set_cons_succ, spliceL, List.take_succ_cons, List.take_zero, List.drop_succ_cons, List.drop_zero, List.length_cons, List.length_nil, Nat.reduceAdd, Row.cells, Cm.L, Rq.L, Tp.L, Bat.L] at H
          refine LW.nil (thenE_norm ⟨fun h => Bool.noConfusion (show true = false from h), ?_⟩)
          refine DL.done (by kernel_rfl) ?_
          refine thenE_norm ?_
          refine cut (K := K12) [0, 2, 3, 4, 5] (fun σ => ?_)
          simp only [setL, keepE, upd_get, ev, Nat.reduceEqDiff, ↓reduceIte]
          refine h12 _ _ ?_; clear h12; try clear K12
          refine CW.seq (fun K13 h13 => ?_)
          refine CW.region ?_
          refine r_assign rfl ?_
          refine LW.nil ?_
          refine thenE_norm (h13 _ _ ?_); clear h13; try clear K13
          refine CW.seq (fun K14 h14 => ?_)
          refine CW.seq (fun K15 h15 => ?_)
          refine CW.region ?_
          refine r_assign rfl ?_
          refine LW.nil ?_
          refine thenE_norm (h15 _ _ ?_); clear h15; try clear K15
          refine CW.block ?_
          refine CW.loopR [0, 2, 3, 4, 5] [6, 7] (fun m vs w' => ∃ (k : Nat), vs = [.bool ((rs.take k).any (sameC (rqN y0.toNat y1.toNat y2.toNat y3.toNat y4.toNat))), .int .i64 k] ∧ k ≤ rs.length ∧ m = rs.length - k ∧ SH Non Any w w' [.R (Old w) v ns, .B b0_0 27 [.bool false, .int .i64 0, .int .i64 0, .int .i64 0, .int .i64 0, .slice none 0 0], .B b3_21 27 [.bool false, .int .i64 ((x2.toNat : Int) % 8), .int .i64 ((x0.toNat : Int) % 4), .int .i64 ((x1.toNat : Int) % 6), .int .i64 (x3.toNat : Int), u], .O 32 u rs g, .B b7_25 32 (Row.cells (rqN y0.toNat y1.toNat y2.toNat y3.toNat y4.toNat))]) (rs.length) ?_ ?_
          · exact ⟨0, rfl, by omega, by omega, H⟩
          try clear H
          rintro n2 vs2 wL2 σ ⟨k, rfl, hk, rfl, H⟩
          simp only [setL, keepE, upd_get, ev, Nat.reduceEqDiff, ↓reduceIte]
          refine CW.seq (fun K16 h16 => ?_)
          refine CW.seq (fun K17 h17 => ?_)
          refine CW.region ?_
          refine r_move rfl ?_
          refine r_fieldAddrO rfl Try.underlying27 rfl Try.sizeOf25 (by decide) (show _ = 5 from rfl) rfl ?_
          refine r_load rfl Try.isAgg25 rfl (by first | exact SH.cellB H (by (repeat first | exact At.here | apply At.there); done) (by rfl) | assumption) ?_
          first
            | refine r_lenV rfl Try.underlying25 (by simp only [upd_get, ev, Nat.reduceEqDiff, ↓reduceIte] <;> rfl) (by first | assumption | exact SH.rsR H (by (repeat first | exact At.here | apply At.there); done) | exact SH.rsO H (by (repeat first | exact At.here | apply At.there); done) | exact (Rs.nil : Rs Non _ _ _)) ?_
            | refine r_len rfl Try.underlying25 rfl ?_
          refine r_lss rfl rfl rfl ?_
          refine LW.nil ?_
          refine thenE_norm (h17 _ _ ?_); clear h17; try clear K17
          refine CW.cond rfl (fun hc3 => ?_) (fun hc3 => ?_)
          · try simp only [decide_eq_true_eq, decide_eq_false_iff_not, Bool.and_eq_true, Bool.or_eq_true, Bool.and_eq_false_iff, Bool.or_eq_false_iff, Bool.not_eq_true', Bool.not_eq_false', beq_iff_eq, bne_iff_ne, ne_eq, Decidable.not_not] at hc3
            refine CW.skip ?_
            refine thenE_norm (h16 _ _ ?_); clear h16; try clear K16
            refine CW.seq (fun K18 h18 => ?_)
            refine CW.block ?_
            obtain ⟨z, hz⟩ := get_of_lt (show k < rs.length by omega)
            refine CW.drawH [] H (List.Sublist.refl _) (by kernel_rfl) rfl ?_
            clear H
            intro w12d H
            refine DL.take (i := 0) [] rfl (by kernel_rfl) (by kernel_rfl) (by kernel_rfl) (by kernel_rfl) rfl rfl (fun u H => x_move ) H ?_
            refine DL.take (i := 1) [] rfl (by kernel_rfl) (by kernel_rfl) (by kernel_rfl) (by kernel_rfl) rfl rfl (fun u H => x_move ) H ?_
            refine DL.splitB (t := 85) rfl (fun hg12_1 => ?_) (fun hg12_1 => ?_)
            · have hg12_1P := hg12_1
              try simp only [decide_eq_true_eq, decide_eq_false_iff_not, Bool.and_eq_true, Bool.or_eq_true, Bool.and_eq_false_iff, Bool.or_eq_false_iff, Bool.not_eq_true', Bool.not_eq_false', beq_iff_eq, bne_iff_ne, ne_eq, Decidable.not_not] at hg12_1P
              refine DL.skip (i := 2) [] rfl (by kernel_rfl) (by kernel_rfl) (by kernel_rfl) (by kernel_rfl) rfl (skipE rfl rfl hg12_1) H ?_
              refine DL.skip (i := 3) [] rfl (by kernel_rfl) (by kernel_rfl) (by kernel_rfl) (by kernel_rfl) rfl (skipE rfl rfl hg12_1) H ?_
              refine DL.skip (i := 4) [] rfl (by kernel_rfl) (by kernel_rfl) (by kernel_rfl) (by kernel_rfl) rfl (skipE rfl rfl hg12_1) H ?_
              refine DL.skip (i := 5) [] rfl (by kernel_rfl) (by kernel_rfl) (by kernel_rfl) (by kernel_rfl) rfl (skipE rfl rfl hg12_1) H ?_
              refine DL.skip (i := 6) [] rfl (by kernel_rfl) (by kernel_rfl) (by kernel_rfl) (by kernel_rfl) rfl (skipE rfl rfl hg12_1) H ?_
              refine DL.skip (i := 7) [] rfl (by kernel_rfl) (by kernel_rfl) (by kernel_rfl) (by kernel_rfl) rfl (skipE rfl rfl hg12_1) H ?_
              refine DL.skip (i := 8) [] rfl (by kernel_rfl) (by kernel_rfl) (by kernel_rfl) (by kernel_rfl) rfl (skipE rfl rfl hg12_1) H ?_
              refine DL.skip (i := 9) [] rfl (by kernel_rfl) (by kernel_rfl) (by kernel_rfl) (by kernel_rfl) rfl (skipE rfl rfl hg12_1) H ?_
              refine DL.skip (i := 10) [] rfl (by kernel_rfl) (by kernel_rfl) (by kernel_rfl) (by kernel_rfl) rfl (skipE rfl rfl hg12_1) H ?_
              refine DL.take (i := 11) [] rfl (by kernel_rfl) (by kernel_rfl) (by kernel_rfl) (by kernel_rfl) rfl rfl (fun u H => x_pickT rfl hg12_1) H ?_
              refine DL.take (i := 12) [] rfl (by kernel_rfl) (by kernel_rfl) (by kernel_rfl) (by kernel_rfl) rfl rfl (fun u H => x_assign ) H ?_
              refine DL.done (by kernel_rfl) ?_
              refine blockE_norm ?_
              refine thenE_norm (h18 _ _ ?_); clear h18; try clear K18
              refine CW.region ?_
              refine r_move rfl ?_
              refine r_add rfl rfl rfl (wr_i64 (by omega) (by omega)) ?_
              refine r_assign rfl ?_
              refine LW.nil ?_
              refine thenE_norm ⟨rfl, ?_⟩
              refine ⟨rs.length - (k + 1), by omega, k + 1, ?_, by omega, rfl, H⟩
              rw [V.take_snoc hz, List.any_append]
              first
                | (rw [hg12_1P, Bool.true_or]; rfl)
                | (rw [hg12_1P, Bool.false_or, List.any_cons, List.any_nil, Bool.or_false]; rfl)
            · have hg12_1P := hg12_1
              try simp only [decide_eq_true_eq, decide_eq_false_iff_not, Bool.and_eq_true, Bool.or_eq_true, Bool.and_eq_false_iff, Bool.or_eq_false_iff, Bool.not_eq_true', Bool.not_eq_false', beq_iff_eq, bne_iff_ne, ne_eq, Decidable.not_not] at hg12_1P
              refine DL.take (i := 2) [] rfl (by kernel_rfl) (by kernel_rfl) (by kernel_rfl) (by kernel_rfl) rfl (wantE rfl rfl hg12_1) (fun u H => x_fieldAddrO Try.underlying27 rfl Try.sizeOf25 (by decide) (show _ = 5 from rfl) rfl) H ?_
              refine DL.take (i := 3) [] rfl (by kernel_rfl) (by kernel_rfl) (by kernel_rfl) (by kernel_rfl) rfl (wantE rfl rfl hg12_1) (fun u H => x_load Try.isAgg25 rfl (by first | exact SH.cellB H (by (repeat first | exact At.here | apply At.there); done) (by rfl) | assumption)) H ?_
              refine DL.take (i := 4) [] rfl (by kernel_rfl) (by kernel_rfl) (by kernel_rfl) (by kernel_rfl) rfl (wantE rfl rfl hg12_1) (fun u H => x_move ) H ?_
              refine DL.take (i := 5) [] rfl (by kernel_rfl) (by kernel_rfl) (by kernel_rfl) (by kernel_rfl) rfl (wantE rfl rfl hg12_1) (fun u H => x_indexAddrV Try.underlying25 (by simp only [upd_get, ev, Nat.reduceEqDiff, ↓reduceIte] <;> rfl) rfl (by first | assumption | exact SH.rsR H (by (repeat first | exact At.here | apply At.there); done) | exact SH.rsO H (by (repeat first | exact At.here | apply At.there); done) | exact (Rs.nil : Rs Non _ _ _)) (by exact Try.sizeOf32) (by omega) (by omega)) H ?_
              refine DL.take (i := 6) [] rfl (by kernel_rfl) (by kernel_rfl) (by kernel_rfl) (by kernel_rfl) rfl (wantE rfl rfl hg12_1) (fun u H => x_fieldAddrO Try.underlying32 rfl Try.sizeOf3 (by decide) (show _ + 0 = _ from rfl) rfl) H ?_
              refine DL.take (i := 7) [] rfl (by kernel_rfl) (by kernel_rfl) (by kernel_rfl) (by kernel_rfl) rfl (wantE rfl rfl hg12_1) (fun u H => x_load Try.isAgg3 rfl (by first | exact Rs.cell (by first | assumption | exact SH.rsR H (by (repeat first | exact At.here | apply At.there); done) | exact SH.rsO H (by (repeat first | exact At.here | apply At.there); done) | exact (Rs.nil : Rs Non _ _ _)) (by assumption) (by rfl) | exact Rs.cell0 (by first | assumption | exact SH.rsR H (by (repeat first | exact At.here | apply At.there); done) | exact SH.rsO H (by (repeat first | exact At.here | apply At.there); done) | exact (Rs.nil : Rs Non _ _ _)) (by assumption) (by rfl) | assumption)) H ?_
              refine DL.take (i := 8) [] rfl (by kernel_rfl) (by kernel_rfl) (by kernel_rfl) (by kernel_rfl) rfl (wantE rfl rfl hg12_1) (fun u H => x_fieldAddrO Try.underlying32 rfl Try.sizeOf3 (by decide) (show _ = 0 from rfl) rfl) H ?_
              refine DL.take (i := 9) [] rfl (by kernel_rfl) (by kernel_rfl) (by kernel_rfl) (by kernel_rfl) rfl (wantE rfl rfl hg12_1) (fun u H => x_load Try.isAgg3 rfl (by first | exact SH.cellB H (by (repeat first | exact At.here | apply At.there); done) (by rfl) | assumption)) H ?_
              refine DL.take (i := 10) [] rfl (by kernel_rfl) (by kernel_rfl) (by kernel_rfl) (by kernel_rfl) rfl (wantE rfl rfl hg12_1) (fun u H => x_eql rfl rfl) H ?_
              refine DL.take (i := 11) [] rfl (by kernel_rfl) (by kernel_rfl) (by kernel_rfl) (by kernel_rfl) rfl rfl (fun u H => x_pickF rfl hg12_1) H ?_
              refine DL.take (i := 12) [] rfl (by kernel_rfl) (by kernel_rfl) (by kernel_rfl) (by kernel_rfl) rfl rfl (fun u H => x_assign ) H ?_
              refine DL.done (by kernel_rfl) ?_
              refine blockE_norm ?_
              refine thenE_norm (h18 _ _ ?_); clear h18; try clear K18
              refine CW.region ?_
              refine r_move rfl ?_
              refine r_add rfl rfl rfl (wr_i64 (by omega) (by omega)) ?_
              refine r_assign rfl ?_
              refine LW.nil ?_
              refine thenE_norm ⟨rfl, ?_⟩
              refine ⟨rs.length - (k + 1), by omega, k + 1, ?_, by omega, rfl, H⟩
              rw [V.take_snoc hz, List.any_append]
              first
                | (rw [hg12_1P, Bool.true_or]; rfl)
                | (rw [hg12_1P, Bool.false_or, List.any_cons, List.any_nil, Bool.or_false]; rfl)
          · try simp only [decide_eq_true_eq, decide_eq_false_iff_not, Bool.and_eq_true, Bool.or_eq_true, Bool.and_eq_false_iff, Bool.or_eq_false_iff, Bool.not_eq_true', Bool.not_eq_false', beq_iff_eq, bne_iff_ne, ne_eq, Decidable.not_not] at hc3
            refine CW.exit (thenE_exit (thenE_exit (blockE_hit ?_)))
            refine thenE_norm (h14 _ _ ?_); clear h14; try clear K14
            refine CW.seq (fun K19 h19 => ?_)
            obtain rfl : k = rs.length := by omega
            rw [List.take_length]
            refine CW.region ?_
            refine r_move rfl ?_
            refine r_not rfl rfl ?_
            refine LW.nil ?_
            refine thenE_norm (h19 _ _ ?_); clear h19; try clear K19
            refine CW.cond rfl (fun hc4 => ?_) (fun hc4 => ?_)
            · try simp only [decide_eq_true_eq, decide_eq_false_iff_not, Bool.and_eq_true, Bool.or_eq_true, Bool.and_eq_false_iff, Bool.or_eq_false_iff, Bool.not_eq_true', Bool.not_eq_false', beq_iff_eq, bne_iff_ne, ne_eq, Decidable.not_not] at hc4
              refine CW.region ?_
              refine r_fieldAddrO rfl Try.underlying27 rfl Try.sizeOf25 (by decide) (show _ = 5 from rfl) rfl ?_
              refine r_load rfl Try.isAgg25 rfl (by first | exact SH.cellB H (by (repeat first | exact At.here | apply At.there); done) (by rfl) | assumption) ?_
              refine r_loadA rfl Try.isAgg32 Try.sizeOf32 rfl (by first | exact SH.cells H (by (repeat first | exact At.here | apply At.there); done)) (by rfl) ?_
              refine r_buildSliceA (vs := [_]) rfl Try.underlying25 Try.sizeOf32 Try.zeroValue32 rfl rfl rfl rfl (by simp only [List.map_cons, List.map_nil, List.toList_toArray, numbered, Nat.reduceAdd, upd_get, ev, Nat.reduceEqDiff, ↓reduceIte] <;> rfl) rfl (by intro v hv; simp only [List.mem_cons, List.not_mem_nil, or_false] at hv; rcases hv with rfl <;> rfl) ?_
              intro b14_3 w14_3 hb14_3 hs14_3 hE14_3 hB14_3
              replace H := SH.call H (SH.fromB hE14_3 hb14_3 hs14_3 hB14_3)
              clear hb14_3 hs14_3 hE14_3 hB14_3
              try dsimp only [replC, List.cons_append, List.nil_append, List.append_nil, agg, cellsL, Value.cells, List.toList_toArray, List.set_cons_zero, List.set_cons_succ, spliceL, List.take_succ_cons, List.take_zero, List.drop_succ_cons, List.drop_zero, List.length_cons, List.length_nil, Nat.reduceAdd, Row.cells, Cm.L, Rq.L, Tp.L, Bat.L] at H
              replace H := SH.row (b := b14_3) (xs := ([rqN y0.toNat y1.toNat y2.toNat y3.toNat y4.toNat] : List Rq)) (n := 1) (cap := 1) H (by (repeat first | exact At.here | apply At.there); done) (by simp only [flat, List.flatMap_cons, List.flatMap_nil, cellsL, agg, List.append_nil, List.cons_append, List.nil_append, List.toList_toArray, Row.cells, Cm.L, Rq.L, Tp.L, Bat.L] <;> rfl) (by intro x hx; first | rfl | (simp at hx; done) | (simp only [List.mem_cons, List.not_mem_nil, or_false] at hx; rcases hx with rfl <;> first | rfl | exact (by first | rfl | assumption | exact Rs.oneC (by first | assumption | exact SH.rsR H (by (repeat first | exact At.here | apply At.there); done) | exact SH.rsO H (by (repeat first | exact At.here | apply At.there); done) | exact (Rs.nil : Rs Non _ _ _)) | (simp only [List.all_cons, List.all_nil, Bool.and_true, Bool.and_eq_true, Row.cells, Cm.L, Rq.L, Tp.L, Bat.L]; (repeat' constructor) <;> first | rfl | assumption | exact Rs.oneC (by first | assumption | exact SH.rsR H (by (repeat first | exact At.here | apply At.there); done) | exact SH.rsO H (by (repeat first | exact At.here | apply At.there); done) | exact (Rs.nil : Rs Non _ _ _)))))) (by rfl) rfl (by decide)
              try dsimp only [replC, List.cons_append, List.nil_append, List.append_nil, agg, cellsL, Value.cells, List.toList_toArray, List.set_cons_zero, List.set_cons_succ, spliceL, List.take_succ_cons, List.take_zero, List.drop_succ_cons, List.drop_zero, List.length_cons, List.length_nil, Nat.reduceAdd, Row.cells, Cm.L, Rq.L, Tp.L, Bat.L] at H
              refine s_append H rfl Try.underlying25 Try.underlying25 Try.type32 rfl (by simp only [upd_get, ev, Nat.reduceEqDiff, ↓reduceIte] <;> rfl) (by simp only [upd_get, ev, Nat.reduceEqDiff, ↓reduceIte] <;> rfl) (by (repeat first | exact At.here | apply At.there); done) (by first | assumption | exact SH.rsR H (by (repeat first | exact At.here | apply At.there); done) | exact SH.rsO H (by (repeat first | exact At.here | apply At.there); done) | exact (Rs.nil : Rs Non _ _ _)) (by rfl) (by rfl) (by first | omega | (simp only [Try.t32, List.length_append, List.length_cons, List.length_nil, List.length_map, maxLen]; omega) | (simp [Try.t32, maxLen]; omega)) (by first | omega | (simp only [Try.t32, List.length_append, List.length_cons, List.length_nil, List.length_map, maxLen]; omega) | (simp [Try.t32, maxLen]; omega)) ?_
              clear H
              intro v14_4 w14_4 g14_4 H hN14_4
              try dsimp only [replC, List.cons_append, List.nil_append, List.append_nil] at H
              refine r_fieldAddrO rfl Try.underlying27 rfl Try.sizeOf25 (by decide) (show _ = 5 from rfl) rfl ?_
              refine s_store H Try.sizeOf25 rfl (by simp only [upd_get, ev, Nat.reduceEqDiff, ↓reduceIte] <;> rfl) (by first | rfl | assumption | exact Rs.oneC (by first | assumption | exact SH.rsR H (by (repeat first | exact At.here | apply At.there); done) | exact SH.rsO H (by (repeat first | exact At.here | apply At.there); done) | exact (Rs.nil : Rs Non _ _ _)) | (simp only [List.all_cons, List.all_nil, Bool.and_true, Bool.and_eq_true, Row.cells, Cm.L, Rq.L, Tp.L, Bat.L]; (repeat' constructor) <;> first | rfl | assumption | exact Rs.oneC (by first | assumption | exact SH.rsR H (by (repeat first | exact At.here | apply At.there); done) | exact SH.rsO H (by (repeat first | exact At.here | apply At.there); done) | exact (Rs.nil : Rs Non _ _ _)))) (by (repeat first | exact At.here | apply At.there); done) (by first | (simp; done) | decide | omega) ?_
              clear H
              intro w14_6 H
              try dsimp only [replC, List.cons_append, List.nil_append, List.append_nil, agg, cellsL, Value.cells, List.toList_toArray, List.set_cons_zero, List.set_cons_succ, spliceL, List.take_succ_cons, List.take_zero, List.drop_succ_cons, List.drop_zero, List.length_cons, List.length_nil, Nat.reduceAdd, Row.cells, Cm.L, Rq.L, Tp.L, Bat.L] at H
              refine LW.nil ?_
              refine blockE_norm ?_
              refine thenE_norm (h11 _ _ ?_); clear h11; try clear K11
              refine CW.region ?_
              refine r_move rfl ?_
              refine r_add rfl rfl rfl (wr_i64 (by omega) (by omega)) ?_
              refine r_assign rfl ?_
              refine LW.nil ?_
              refine thenE_norm ⟨rfl, ?_⟩
              have hx : mayRq (rqN y0.toNat y1.toNat y2.toNat y3.toNat y4.toNat) = true := rqN_may (by omega) (by omega) (by omega) (by omega) (by omega) (by omega)
              have hxs := rqN_size y0.toNat y1.toNat y2.toNat y3.toNat y4.toNat (by omega)
              exact ⟨ns.length - (i + 5), by omega, i + 5, _, _, _, rfl, rfl, mayQ_snoc hmq hx hc4, by rw [List.length_append, List.length_singleton]; omega, small_snoc hsm (by omega), by omega, by rw [← hrn, if_neg (by rw [hc4]; decide)], SH.sel H [0, 1, 2, 3] (by decide) rfl⟩
            · try simp only [decide_eq_true_eq, decide_eq_false_iff_not, Bool.and_eq_true, Bool.or_eq_true, Bool.and_eq_false_iff, Bool.or_eq_false_iff, Bool.not_eq_true', Bool.not_eq_false', beq_iff_eq, bne_iff_ne, ne_eq, Decidable.not_not] at hc4
              refine CW.skip ?_
              refine blockE_norm ?_
              refine thenE_norm (h11 _ _ ?_); clear h11; try clear K11
              refine CW.region ?_
              refine r_move rfl ?_
              refine r_add rfl rfl rfl (wr_i64 (by omega) (by omega)) ?_
              refine r_assign rfl ?_
              refine LW.nil ?_
              refine thenE_norm ⟨rfl, ?_⟩
              exact ⟨ns.length - (i + 5), by omega, i + 5, _, _, _, rfl, rfl, hmq, hr3, hsm, by omega, by rw [← hrn, if_pos (by first | exact hc4 | simpa using hc4)], SH.sel H [0, 1, 2, 3] (by decide) rfl⟩
        · refine LOp.of rfl rfl ?_
          refine s_alloc (cs := [.int .i64 0, .int .i64 0, .int .i64 0, .int .i64 0, .string (ByteArray.mk #[])]) H rfl Try.zeroValue32 rfl ?_
          clear H
          intro b7_25 w7_25 H
          try dsimp only [replC, List.cons_append, List.nil_append, List.append_nil, agg, cellsL, Value.cells, List.toList_toArray, List.set_cons_zero, List.set_cons_succ, spliceL, List.take_succ_cons, List.take_zero, List.drop_succ_cons, List.drop_zero, List.length_cons, List.length_nil, Nat.reduceAdd, Row.cells, Cm.L, Rq.L, Tp.L, Bat.L] at H
          refine LW.nil (thenE_norm ⟨fun _ => (SH.sub H (by repeat first | exact List.Sublist.refl _ | exact List.nil_sublist _ | apply List.Sublist.cons_cons | apply List.Sublist.cons)), ?_⟩)
          refine DL.one (i := 24) (by kernel_rfl) rfl rfl ?_
          refine r_call rfl Try.call17 (by simp only [List.map_cons, List.map_nil, List.map_toArray, List.toList_toArray, upd_get, ev, Nat.reduceEqDiff, ↓reduceIte] <;> rfl) (ReqS_c _ _ _ _ _ _ (by omega) (by omega) (by omega) (by omega) (by omega)) ?_
          rintro _ w7_24 ⟨rfl, X⟩
          refine ⟨_, rfl, ?_⟩
          replace H := SH.same H X
          clear X
          refine LW.nil (thenE_norm ⟨fun _ => (SH.sub H (by repeat first | exact List.Sublist.refl _ | exact List.nil_sublist _ | apply List.Sublist.cons_cons | apply List.Sublist.cons)), ?_⟩)
          refine DL.one (i := 26) (by kernel_rfl) rfl rfl ?_
          refine s_storeA H Try.sizeOf32 rfl (by simp only [upd_get, ev, Nat.reduceEqDiff, ↓reduceIte] <;> rfl) (by simp only [cellsL, agg, List.toList_toArray, Row.cells, Cm.L, Rq.L, Tp.L, Bat.L] <;> rfl) (by rfl) (by first | rfl | assumption | exact Rs.oneC (by first | assumption | exact SH.rsR H (by (repeat first | exact At.here | apply At.there); done) | exact SH.rsO H (by (repeat first | exact At.here | apply At.there); done) | exact (Rs.nil : Rs Non _ _ _)) | (simp only [List.all_cons, List.all_nil, Bool.and_true, Bool.and_eq_true, Row.cells, Cm.L, Rq.L, Tp.L, Bat.L]; (repeat' constructor) <;> first | rfl | assumption | exact Rs.oneC (by first | assumption | exact SH.rsR H (by (repeat first | exact At.here | apply At.there); done) | exact SH.rsO H (by (repeat first | exact At.here | apply At.there); done) | exact (Rs.nil : Rs Non _ _ _)))) (by (repeat first | exact At.here | apply At.there); done) (by first | (simp; done) | decide | (show _ ≤ _; decide)) ?_
          clear H
          intro w7_26 H
          try dsimp only [replC, List.cons_append, List.nil_append, List.append_nil, agg, cellsL, Value.cells, List.toList_toArray, List.set_cons_zero, List.set_cons_succ, spliceL, List.take_succ_cons, List.take_zero, List.drop_succ_cons, List.drop_zero, List.length_cons, List.length_nil, Nat.reduceAdd, Row.cells, Cm.L, Rq.L, Tp.L, Bat.L] at H
          refine LW.nil (thenE_norm ⟨fun h => Bool.noConfusion (show true = false from h), ?_⟩)
          refine DL.done (by kernel_rfl) ?_
          refine thenE_norm ?_
          refine cut (K := K12) [0, 2, 3, 4, 5] (fun σ => ?_)
          simp only [setL, keepE, upd_get, ev, Nat.reduceEqDiff, ↓reduceIte]
          refine h12 _ _ ?_; clear h12; try clear K12
          refine CW.seq (fun K20 h20 => ?_)
          refine CW.region ?_
          refine r_assign rfl ?_
          refine LW.nil ?_
          refine thenE_norm (h20 _ _ ?_); clear h20; try clear K20
          refine CW.seq (fun K21 h21 => ?_)
          refine CW.seq (fun K22 h22 => ?_)
          refine CW.region ?_
          refine r_assign rfl ?_
          refine LW.nil ?_
          refine thenE_norm (h22 _ _ ?_); clear h22; try clear K22
          refine CW.block ?_
          refine CW.loopR [0, 2, 3, 4, 5] [6, 7] (fun m vs w' => ∃ (k : Nat), vs = [.bool ((rs.take k).any (sameC (rqN y0.toNat y1.toNat y2.toNat y3.toNat y4.toNat))), .int .i64 k] ∧ k ≤ rs.length ∧ m = rs.length - k ∧ SH Non Any w w' [.R (Old w) v ns, .B b0_0 27 [.bool false, .int .i64 0, .int .i64 0, .int .i64 0, .int .i64 0, .slice none 0 0], .B b3_21 27 [.bool false, .int .i64 ((x2.toNat : Int) % 8), .int .i64 ((x0.toNat : Int) % 4), .int .i64 ((x1.toNat : Int) % 6), .int .i64 (x3.toNat : Int), u], .O 32 u rs g, .B b7_25 32 (Row.cells (rqN y0.toNat y1.toNat y2.toNat y3.toNat y4.toNat))]) (rs.length) ?_ ?_
          · exact ⟨0, rfl, by omega, by omega, H⟩
          try clear H
          rintro n2 vs2 wL2 σ ⟨k, rfl, hk, rfl, H⟩
          simp only [setL, keepE, upd_get, ev, Nat.reduceEqDiff, ↓reduceIte]
          refine CW.seq (fun K23 h23 => ?_)
          refine CW.seq (fun K24 h24 => ?_)
          refine CW.region ?_
          refine r_move rfl ?_
          refine r_fieldAddrO rfl Try.underlying27 rfl Try.sizeOf25 (by decide) (show _ = 5 from rfl) rfl ?_
          refine r_load rfl Try.isAgg25 rfl (by first | exact SH.cellB H (by (repeat first | exact At.here | apply At.there); done) (by rfl) | assumption) ?_
          first
            | refine r_lenV rfl Try.underlying25 (by simp only [upd_get, ev, Nat.reduceEqDiff, ↓reduceIte] <;> rfl) (by first | assumption | exact SH.rsR H (by (repeat first | exact At.here | apply At.there); done) | exact SH.rsO H (by (repeat first | exact At.here | apply At.there); done) | exact (Rs.nil : Rs Non _ _ _)) ?_
            | refine r_len rfl Try.underlying25 rfl ?_
          refine r_lss rfl rfl rfl ?_
          refine LW.nil ?_
          refine thenE_norm (h24 _ _ ?_); clear h24; try clear K24
          refine CW.cond rfl (fun hc3 => ?_) (fun hc3 => ?_)
          · try simp only [decide_eq_true_eq, decide_eq_false_iff_not, Bool.and_eq_true, Bool.or_eq_true, Bool.and_eq_false_iff, Bool.or_eq_false_iff, Bool.not_eq_true', Bool.not_eq_false', beq_iff_eq, bne_iff_ne, ne_eq, Decidable.not_not] at hc3
            refine CW.skip ?_
            refine thenE_norm (h23 _ _ ?_); clear h23; try clear K23
            refine CW.seq (fun K25 h25 => ?_)
            refine CW.block ?_
            obtain ⟨z, hz⟩ := get_of_lt (show k < rs.length by omega)
            refine CW.drawH [] H (List.Sublist.refl _) (by kernel_rfl) rfl ?_
            clear H
            intro w12d H
            refine DL.take (i := 0) [] rfl (by kernel_rfl) (by kernel_rfl) (by kernel_rfl) (by kernel_rfl) rfl rfl (fun u H => x_move ) H ?_
            refine DL.take (i := 1) [] rfl (by kernel_rfl) (by kernel_rfl) (by kernel_rfl) (by kernel_rfl) rfl rfl (fun u H => x_move ) H ?_
            refine DL.splitB (t := 85) rfl (fun hg12_1 => ?_) (fun hg12_1 => ?_)
            · have hg12_1P := hg12_1
              try simp only [decide_eq_true_eq, decide_eq_false_iff_not, Bool.and_eq_true, Bool.or_eq_true, Bool.and_eq_false_iff, Bool.or_eq_false_iff, Bool.not_eq_true', Bool.not_eq_false', beq_iff_eq, bne_iff_ne, ne_eq, Decidable.not_not] at hg12_1P
              refine DL.skip (i := 2) [] rfl (by kernel_rfl) (by kernel_rfl) (by kernel_rfl) (by kernel_rfl) rfl (skipE rfl rfl hg12_1) H ?_
              refine DL.skip (i := 3) [] rfl (by kernel_rfl) (by kernel_rfl) (by kernel_rfl) (by kernel_rfl) rfl (skipE rfl rfl hg12_1) H ?_
              refine DL.skip (i := 4) [] rfl (by kernel_rfl) (by kernel_rfl) (by kernel_rfl) (by kernel_rfl) rfl (skipE rfl rfl hg12_1) H ?_
              refine DL.skip (i := 5) [] rfl (by kernel_rfl) (by kernel_rfl) (by kernel_rfl) (by kernel_rfl) rfl (skipE rfl rfl hg12_1) H ?_
              refine DL.skip (i := 6) [] rfl (by kernel_rfl) (by kernel_rfl) (by kernel_rfl) (by kernel_rfl) rfl (skipE rfl rfl hg12_1) H ?_
              refine DL.skip (i := 7) [] rfl (by kernel_rfl) (by kernel_rfl) (by kernel_rfl) (by kernel_rfl) rfl (skipE rfl rfl hg12_1) H ?_
              refine DL.skip (i := 8) [] rfl (by kernel_rfl) (by kernel_rfl) (by kernel_rfl) (by kernel_rfl) rfl (skipE rfl rfl hg12_1) H ?_
              refine DL.skip (i := 9) [] rfl (by kernel_rfl) (by kernel_rfl) (by kernel_rfl) (by kernel_rfl) rfl (skipE rfl rfl hg12_1) H ?_
              refine DL.skip (i := 10) [] rfl (by kernel_rfl) (by kernel_rfl) (by kernel_rfl) (by kernel_rfl) rfl (skipE rfl rfl hg12_1) H ?_
              refine DL.take (i := 11) [] rfl (by kernel_rfl) (by kernel_rfl) (by kernel_rfl) (by kernel_rfl) rfl rfl (fun u H => x_pickT rfl hg12_1) H ?_
              refine DL.take (i := 12) [] rfl (by kernel_rfl) (by kernel_rfl) (by kernel_rfl) (by kernel_rfl) rfl rfl (fun u H => x_assign ) H ?_
              refine DL.done (by kernel_rfl) ?_
              refine blockE_norm ?_
              refine thenE_norm (h25 _ _ ?_); clear h25; try clear K25
              refine CW.region ?_
              refine r_move rfl ?_
              refine r_add rfl rfl rfl (wr_i64 (by omega) (by omega)) ?_
              refine r_assign rfl ?_
              refine LW.nil ?_
              refine thenE_norm ⟨rfl, ?_⟩
              refine ⟨rs.length - (k + 1), by omega, k + 1, ?_, by omega, rfl, H⟩
              rw [V.take_snoc hz, List.any_append]
              first
                | (rw [hg12_1P, Bool.true_or]; rfl)
                | (rw [hg12_1P, Bool.false_or, List.any_cons, List.any_nil, Bool.or_false]; rfl)
            · have hg12_1P := hg12_1
              try simp only [decide_eq_true_eq, decide_eq_false_iff_not, Bool.and_eq_true, Bool.or_eq_true, Bool.and_eq_false_iff, Bool.or_eq_false_iff, Bool.not_eq_true', Bool.not_eq_false', beq_iff_eq, bne_iff_ne, ne_eq, Decidable.not_not] at hg12_1P
              refine DL.take (i := 2) [] rfl (by kernel_rfl) (by kernel_rfl) (by kernel_rfl) (by kernel_rfl) rfl (wantE rfl rfl hg12_1) (fun u H => x_fieldAddrO Try.underlying27 rfl Try.sizeOf25 (by decide) (show _ = 5 from rfl) rfl) H ?_
              refine DL.take (i := 3) [] rfl (by kernel_rfl) (by kernel_rfl) (by kernel_rfl) (by kernel_rfl) rfl (wantE rfl rfl hg12_1) (fun u H => x_load Try.isAgg25 rfl (by first | exact SH.cellB H (by (repeat first | exact At.here | apply At.there); done) (by rfl) | assumption)) H ?_
              refine DL.take (i := 4) [] rfl (by kernel_rfl) (by kernel_rfl) (by kernel_rfl) (by kernel_rfl) rfl (wantE rfl rfl hg12_1) (fun u H => x_move ) H ?_
              refine DL.take (i := 5) [] rfl (by kernel_rfl) (by kernel_rfl) (by kernel_rfl) (by kernel_rfl) rfl (wantE rfl rfl hg12_1) (fun u H => x_indexAddrV Try.underlying25 (by simp only [upd_get, ev, Nat.reduceEqDiff, ↓reduceIte] <;> rfl) rfl (by first | assumption | exact SH.rsR H (by (repeat first | exact At.here | apply At.there); done) | exact SH.rsO H (by (repeat first | exact At.here | apply At.there); done) | exact (Rs.nil : Rs Non _ _ _)) (by exact Try.sizeOf32) (by omega) (by omega)) H ?_
              refine DL.take (i := 6) [] rfl (by kernel_rfl) (by kernel_rfl) (by kernel_rfl) (by kernel_rfl) rfl (wantE rfl rfl hg12_1) (fun u H => x_fieldAddrO Try.underlying32 rfl Try.sizeOf3 (by decide) (show _ + 0 = _ from rfl) rfl) H ?_
              refine DL.take (i := 7) [] rfl (by kernel_rfl) (by kernel_rfl) (by kernel_rfl) (by kernel_rfl) rfl (wantE rfl rfl hg12_1) (fun u H => x_load Try.isAgg3 rfl (by first | exact Rs.cell (by first | assumption | exact SH.rsR H (by (repeat first | exact At.here | apply At.there); done) | exact SH.rsO H (by (repeat first | exact At.here | apply At.there); done) | exact (Rs.nil : Rs Non _ _ _)) (by assumption) (by rfl) | exact Rs.cell0 (by first | assumption | exact SH.rsR H (by (repeat first | exact At.here | apply At.there); done) | exact SH.rsO H (by (repeat first | exact At.here | apply At.there); done) | exact (Rs.nil : Rs Non _ _ _)) (by assumption) (by rfl) | assumption)) H ?_
              refine DL.take (i := 8) [] rfl (by kernel_rfl) (by kernel_rfl) (by kernel_rfl) (by kernel_rfl) rfl (wantE rfl rfl hg12_1) (fun u H => x_fieldAddrO Try.underlying32 rfl Try.sizeOf3 (by decide) (show _ = 0 from rfl) rfl) H ?_
              refine DL.take (i := 9) [] rfl (by kernel_rfl) (by kernel_rfl) (by kernel_rfl) (by kernel_rfl) rfl (wantE rfl rfl hg12_1) (fun u H => x_load Try.isAgg3 rfl (by first | exact SH.cellB H (by (repeat first | exact At.here | apply At.there); done) (by rfl) | assumption)) H ?_
              refine DL.take (i := 10) [] rfl (by kernel_rfl) (by kernel_rfl) (by kernel_rfl) (by kernel_rfl) rfl (wantE rfl rfl hg12_1) (fun u H => x_eql rfl rfl) H ?_
              refine DL.take (i := 11) [] rfl (by kernel_rfl) (by kernel_rfl) (by kernel_rfl) (by kernel_rfl) rfl rfl (fun u H => x_pickF rfl hg12_1) H ?_
              refine DL.take (i := 12) [] rfl (by kernel_rfl) (by kernel_rfl) (by kernel_rfl) (by kernel_rfl) rfl rfl (fun u H => x_assign ) H ?_
              refine DL.done (by kernel_rfl) ?_
              refine blockE_norm ?_
              refine thenE_norm (h25 _ _ ?_); clear h25; try clear K25
              refine CW.region ?_
              refine r_move rfl ?_
              refine r_add rfl rfl rfl (wr_i64 (by omega) (by omega)) ?_
              refine r_assign rfl ?_
              refine LW.nil ?_
              refine thenE_norm ⟨rfl, ?_⟩
              refine ⟨rs.length - (k + 1), by omega, k + 1, ?_, by omega, rfl, H⟩
              rw [V.take_snoc hz, List.any_append]
              first
                | (rw [hg12_1P, Bool.true_or]; rfl)
                | (rw [hg12_1P, Bool.false_or, List.any_cons, List.any_nil, Bool.or_false]; rfl)
          · try simp only [decide_eq_true_eq, decide_eq_false_iff_not, Bool.and_eq_true, Bool.or_eq_true, Bool.and_eq_false_iff, Bool.or_eq_false_iff, Bool.not_eq_true', Bool.not_eq_false', beq_iff_eq, bne_iff_ne, ne_eq, Decidable.not_not] at hc3
            refine CW.exit (thenE_exit (thenE_exit (blockE_hit ?_)))
            refine thenE_norm (h21 _ _ ?_); clear h21; try clear K21
            refine CW.seq (fun K26 h26 => ?_)
            obtain rfl : k = rs.length := by omega
            rw [List.take_length]
            refine CW.region ?_
            refine r_move rfl ?_
            refine r_not rfl rfl ?_
            refine LW.nil ?_
            refine thenE_norm (h26 _ _ ?_); clear h26; try clear K26
            refine CW.cond rfl (fun hc4 => ?_) (fun hc4 => ?_)
            · try simp only [decide_eq_true_eq, decide_eq_false_iff_not, Bool.and_eq_true, Bool.or_eq_true, Bool.and_eq_false_iff, Bool.or_eq_false_iff, Bool.not_eq_true', Bool.not_eq_false', beq_iff_eq, bne_iff_ne, ne_eq, Decidable.not_not] at hc4
              refine CW.region ?_
              refine r_fieldAddrO rfl Try.underlying27 rfl Try.sizeOf25 (by decide) (show _ = 5 from rfl) rfl ?_
              refine r_load rfl Try.isAgg25 rfl (by first | exact SH.cellB H (by (repeat first | exact At.here | apply At.there); done) (by rfl) | assumption) ?_
              refine r_loadA rfl Try.isAgg32 Try.sizeOf32 rfl (by first | exact SH.cells H (by (repeat first | exact At.here | apply At.there); done)) (by rfl) ?_
              refine r_buildSliceA (vs := [_]) rfl Try.underlying25 Try.sizeOf32 Try.zeroValue32 rfl rfl rfl rfl (by simp only [List.map_cons, List.map_nil, List.toList_toArray, numbered, Nat.reduceAdd, upd_get, ev, Nat.reduceEqDiff, ↓reduceIte] <;> rfl) rfl (by intro v hv; simp only [List.mem_cons, List.not_mem_nil, or_false] at hv; rcases hv with rfl <;> rfl) ?_
              intro b14_3 w14_3 hb14_3 hs14_3 hE14_3 hB14_3
              replace H := SH.call H (SH.fromB hE14_3 hb14_3 hs14_3 hB14_3)
              clear hb14_3 hs14_3 hE14_3 hB14_3
              try dsimp only [replC, List.cons_append, List.nil_append, List.append_nil, agg, cellsL, Value.cells, List.toList_toArray, List.set_cons_zero, List.set_cons_succ, spliceL, List.take_succ_cons, List.take_zero, List.drop_succ_cons, List.drop_zero, List.length_cons, List.length_nil, Nat.reduceAdd, Row.cells, Cm.L, Rq.L, Tp.L, Bat.L] at H
              replace H := SH.row (b := b14_3) (xs := ([rqN y0.toNat y1.toNat y2.toNat y3.toNat y4.toNat] : List Rq)) (n := 1) (cap := 1) H (by (repeat first | exact At.here | apply At.there); done) (by simp only [flat, List.flatMap_cons, List.flatMap_nil, cellsL, agg, List.append_nil, List.cons_append, List.nil_append, List.toList_toArray, Row.cells, Cm.L, Rq.L, Tp.L, Bat.L] <;> rfl) (by intro x hx; first | rfl | (simp at hx; done) | (simp only [List.mem_cons, List.not_mem_nil, or_false] at hx; rcases hx with rfl <;> first | rfl | exact (by first | rfl | assumption | exact Rs.oneC (by first | assumption | exact SH.rsR H (by (repeat first | exact At.here | apply At.there); done) | exact SH.rsO H (by (repeat first | exact At.here | apply At.there); done) | exact (Rs.nil : Rs Non _ _ _)) | (simp only [List.all_cons, List.all_nil, Bool.and_true, Bool.and_eq_true, Row.cells, Cm.L, Rq.L, Tp.L, Bat.L]; (repeat' constructor) <;> first | rfl | assumption | exact Rs.oneC (by first | assumption | exact SH.rsR H (by (repeat first | exact At.here | apply At.there); done) | exact SH.rsO H (by (repeat first | exact At.here | apply At.there); done) | exact (Rs.nil : Rs Non _ _ _)))))) (by rfl) rfl (by decide)
              try dsimp only [replC, List.cons_append, List.nil_append, List.append_nil, agg, cellsL, Value.cells, List.toList_toArray, List.set_cons_zero, List.set_cons_succ, spliceL, List.take_succ_cons, List.take_zero, List.drop_succ_cons, List.drop_zero, List.length_cons, List.length_nil, Nat.reduceAdd, Row.cells, Cm.L, Rq.L, Tp.L, Bat.L] at H
              refine s_append H rfl Try.underlying25 Try.underlying25 Try.type32 rfl (by simp only [upd_get, ev, Nat.reduceEqDiff, ↓reduceIte] <;> rfl) (by simp only [upd_get, ev, Nat.reduceEqDiff, ↓reduceIte] <;> rfl) (by (repeat first | exact At.here | apply At.there); done) (by first | assumption | exact SH.rsR H (by (repeat first | exact At.here | apply At.there); done) | exact SH.rsO H (by (repeat first | exact At.here | apply At.there); done) | exact (Rs.nil : Rs Non _ _ _)) (by rfl) (by rfl) (by first | omega | (simp only [Try.t32, List.length_append, List.length_cons, List.length_nil, List.length_map, maxLen]; omega) | (simp [Try.t32, maxLen]; omega)) (by first | omega | (simp only [Try.t32, List.length_append, List.length_cons, List.length_nil, List.length_map, maxLen]; omega) | (simp [Try.t32, maxLen]; omega)) ?_
              clear H
              intro v14_4 w14_4 g14_4 H hN14_4
              try dsimp only [replC, List.cons_append, List.nil_append, List.append_nil] at H
              refine r_fieldAddrO rfl Try.underlying27 rfl Try.sizeOf25 (by decide) (show _ = 5 from rfl) rfl ?_
              refine s_store H Try.sizeOf25 rfl (by simp only [upd_get, ev, Nat.reduceEqDiff, ↓reduceIte] <;> rfl) (by first | rfl | assumption | exact Rs.oneC (by first | assumption | exact SH.rsR H (by (repeat first | exact At.here | apply At.there); done) | exact SH.rsO H (by (repeat first | exact At.here | apply At.there); done) | exact (Rs.nil : Rs Non _ _ _)) | (simp only [List.all_cons, List.all_nil, Bool.and_true, Bool.and_eq_true, Row.cells, Cm.L, Rq.L, Tp.L, Bat.L]; (repeat' constructor) <;> first | rfl | assumption | exact Rs.oneC (by first | assumption | exact SH.rsR H (by (repeat first | exact At.here | apply At.there); done) | exact SH.rsO H (by (repeat first | exact At.here | apply At.there); done) | exact (Rs.nil : Rs Non _ _ _)))) (by (repeat first | exact At.here | apply At.there); done) (by first | (simp; done) | decide | omega) ?_
              clear H
              intro w14_6 H
              try dsimp only [replC, List.cons_append, List.nil_append, List.append_nil, agg, cellsL, Value.cells, List.toList_toArray, List.set_cons_zero, List.set_cons_succ, spliceL, List.take_succ_cons, List.take_zero, List.drop_succ_cons, List.drop_zero, List.length_cons, List.length_nil, Nat.reduceAdd, Row.cells, Cm.L, Rq.L, Tp.L, Bat.L] at H
              refine LW.nil ?_
              refine blockE_norm ?_
              refine thenE_norm (h11 _ _ ?_); clear h11; try clear K11
              refine CW.region ?_
              refine r_move rfl ?_
              refine r_add rfl rfl rfl (wr_i64 (by omega) (by omega)) ?_
              refine r_assign rfl ?_
              refine LW.nil ?_
              refine thenE_norm ⟨rfl, ?_⟩
              have hx : mayRq (rqN y0.toNat y1.toNat y2.toNat y3.toNat y4.toNat) = true := rqN_may (by omega) (by omega) (by omega) (by omega) (by omega) (by omega)
              have hxs := rqN_size y0.toNat y1.toNat y2.toNat y3.toNat y4.toNat (by omega)
              exact ⟨ns.length - (i + 5), by omega, i + 5, _, _, _, rfl, rfl, mayQ_snoc hmq hx hc4, by rw [List.length_append, List.length_singleton]; omega, small_snoc hsm (by omega), by omega, by rw [← hrn, if_neg (by rw [hc4]; decide)], SH.sel H [0, 1, 2, 3] (by decide) rfl⟩
            · try simp only [decide_eq_true_eq, decide_eq_false_iff_not, Bool.and_eq_true, Bool.or_eq_true, Bool.and_eq_false_iff, Bool.or_eq_false_iff, Bool.not_eq_true', Bool.not_eq_false', beq_iff_eq, bne_iff_ne, ne_eq, Decidable.not_not] at hc4
              refine CW.skip ?_
              refine blockE_norm ?_
              refine thenE_norm (h11 _ _ ?_); clear h11; try clear K11
              refine CW.region ?_
              refine r_move rfl ?_
              refine r_add rfl rfl rfl (wr_i64 (by omega) (by omega)) ?_
              refine r_assign rfl ?_
              refine LW.nil ?_
              refine thenE_norm ⟨rfl, ?_⟩
              exact ⟨ns.length - (i + 5), by omega, i + 5, _, _, _, rfl, rfl, hmq, hr3, hsm, by omega, by rw [← hrn, if_pos (by first | exact hc4 | simpa using hc4)], SH.sel H [0, 1, 2, 3] (by decide) rfl⟩
      · try simp only [decide_eq_true_eq, decide_eq_false_iff_not, Bool.and_eq_true, Bool.or_eq_true, Bool.and_eq_false_iff, Bool.or_eq_false_iff, Bool.not_eq_true', Bool.not_eq_false', beq_iff_eq, bne_iff_ne, ne_eq, Decidable.not_not] at hc2
        refine CW.exit (thenE_exit (thenE_exit (blockE_hit ?_)))
        refine thenE_norm (h7 _ _ ?_); clear h7; try clear K7
        refine CW.seq (fun K27 h27 => ?_)
        refine CW.region ?_
        refine r_loadA rfl Try.isAgg27 Try.sizeOf27 rfl (by first | exact SH.cells H (by (repeat first | exact At.here | apply At.there); done)) (by rfl) ?_
        refine s_storeA H Try.sizeOf27 rfl (by simp only [upd_get, ev, Nat.reduceEqDiff, ↓reduceIte] <;> rfl) (by simp only [cellsL, agg, List.toList_toArray, Row.cells, Cm.L, Rq.L, Tp.L, Bat.L] <;> rfl) (by rfl) (by first | rfl | assumption | exact Rs.oneC (by first | assumption | exact SH.rsR H (by (repeat first | exact At.here | apply At.there); done) | exact SH.rsO H (by (repeat first | exact At.here | apply At.there); done) | exact (Rs.nil : Rs Non _ _ _)) | (simp only [List.all_cons, List.all_nil, Bool.and_true, Bool.and_eq_true, Row.cells, Cm.L, Rq.L, Tp.L, Bat.L]; (repeat' constructor) <;> first | rfl | assumption | exact Rs.oneC (by first | assumption | exact SH.rsR H (by (repeat first | exact At.here | apply At.there); done) | exact SH.rsO H (by (repeat first | exact At.here | apply At.there); done) | exact (Rs.nil : Rs Non _ _ _)))) (by (repeat first | exact At.here | apply At.there); done) (by first | (simp; done) | decide | (show _ ≤ _; decide)) ?_
        clear H
        intro w15_1 H
        try dsimp only [replC, List.cons_append, List.nil_append, List.append_nil, agg, cellsL, Value.cells, List.toList_toArray, List.set_cons_zero, List.set_cons_succ, spliceL, List.take_succ_cons, List.take_zero, List.drop_succ_cons, List.drop_zero, List.length_cons, List.length_nil, Nat.reduceAdd, Row.cells, Cm.L, Rq.L, Tp.L, Bat.L] at H
        refine LW.nil ?_
        refine thenE_norm (h27 _ _ ?_); clear h27; try clear K27
        refine CW.ret (retC1 Try.results16 (by simp only [upd_get, ev, Nat.reduceEqDiff, ↓reduceIte] <;> rfl) Try.isAgg27 Try.sizeOf27 (by exact SH.cells H (by (repeat first | exact At.here | apply At.there); done)) (by rfl) ?_)
        have hend : rsN (ns.drop 4) [] = rs := by
          rw [← hrn]
          exact rsN_end (by rw [List.length_drop]; omega)
        have hmay : mayBat false ((x2.toNat : Int) % 8) ⟨(x0.toNat : Int) % 4, (x1.toNat : Int) % 6⟩ (x3.toNat : Int) rs = true := by
          rw [mayBat, if_neg (by decide), hmq, decide_eq_true hr3]
          dsimp only
          rw [highM_t.2 ⟨by omega, by omega⟩, highM_t.2 ⟨by omega, by omega⟩, highM_t.2 ⟨by omega, by omega⟩, highM_t.2 ⟨by omega, by omega⟩]
          rfl
        rw [hgo, hend]
        exact ⟨_, _, rfl, hmay, hsm, SH.give H (by repeat first | exact List.Sublist.refl _ | exact List.nil_sublist _ | apply List.Sublist.cons_cons | apply List.Sublist.cons) ⟨trivial, trivial⟩⟩
theorem Batch_c {F : Nat → Prop} {v : Value} {ns : List UInt8} (w : World) (hv : Rs F w v ns) (hn : ns.length ≤ 140737488355328) :
    Calls Try.prog 16 #[v] w fun e w' => ∃ (f : Bool) (v' tv ts m : Int) (u : Value) (rs : List Rq) (g : Option Nat), e = .returned (agg (⟨f, v', ⟨tv, ts⟩, m, u⟩ : Bat)) ∧ mayBat f v' ⟨tv, ts⟩ m rs = true ∧ smallQ rs ∧ SH Non Non w w' [.O 32 u rs g] :=
  (BatchN_c w hv hn).mono fun e w' h => by
    obtain ⟨u, g, he, hm, hs, K⟩ := h
    exact ⟨_, _, _, _, _, u, _, g, he, hm, hs, K⟩
end Go.Proofs.Ytalieccfdmokmaa
