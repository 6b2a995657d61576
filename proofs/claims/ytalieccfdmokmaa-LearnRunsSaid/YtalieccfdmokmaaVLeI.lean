/-
  The walks of layer 15's functions, the fourth part: the document's learner.
-/
import Derived.Test.YtalieccfdmokmaaVLeE
import Derived.Test.YtalieccfdmokmaaVIn2
namespace Go.Proofs.Ytalieccfdmokmaa
set_option linter.unusedSimpArgs false
set_option linter.unusedVariables false
set_option maxRecDepth 20000
open Go.V Go.RowKit Go.ChangeShapes Go.WideShapes

structure Sd where
  slot : Int
  ballot : Int
  who : Value
  batch : Bat
  chosen : Bool
def Sd.L (a : Sd) : List Value := [.int .i64 a.slot, .int .i64 a.ballot, a.who, .bool a.batch.fill, .int .i64 a.batch.view, .int .i64 a.batch.tip.view, .int .i64 a.batch.tip.slot, .int .i64 a.batch.time, a.batch.reqs, .bool a.chosen]
instance : Row Sd := ⟨10, Sd.L, ⟨0, 0, .slice none 0 0, ⟨false, 0, ⟨0, 0⟩, 0, .slice none 0 0⟩, false⟩, fun _ => rfl, rfl⟩
def Sd.Good (w : World) (a : Sd) : Prop := I64 a.slot ∧ I64 a.ballot ∧ (∃ xs : List Int, Rs (Old w) w a.who xs ∧ ∀ y ∈ xs, I64 y) ∧ Bat.Good w a.batch ∧ True
theorem Sd.opens : Opens Try.prog (α := Sd) 125 Sd.Good := fun H enc w base spare held fuel cs x hl h => by
  obtain ⟨u0, u1, u2, u3, u4, u5, u6, u7, u8, u9, rfl⟩ := list10 hl
  obtain ⟨m0, hf0⟩ := open_fields Try.underlying125 h
  obtain ⟨y0, t0⟩ := hf0 0 _ 1 rfl (by kernel_rfl)
  obtain ⟨a0, e0, -, w0⟩ := DataW.trod_int Try.underlying3 t0
  obtain rfl : u0 = _ := by simpa using e0
  obtain ⟨y1, t1⟩ := hf0 1 _ 1 rfl (by kernel_rfl)
  obtain ⟨a1, e1, -, w1⟩ := DataW.trod_int Try.underlying3 t1
  obtain rfl : u1 = _ := by simpa using e1
  obtain ⟨y2, t2⟩ := hf0 2 _ 1 rfl (by kernel_rfl)
  obtain ⟨a2, xs2, e2, r2, g2⟩ := Opens.rows (β := Int) Try.underlying41 (opens_i64 Try.underlying3) (by kernel_rfl) t2
  obtain rfl : u2 = _ := by simpa using e2
  have o2 := r2.oneC
  obtain ⟨y3, t3⟩ := hf0 3 _ 6 rfl (by kernel_rfl)
  obtain ⟨a3, e3, o3, g3⟩ := Bat.opens H enc w base spare held _ _ _ rfl t3
  have q3 : [u3, u4, u5, u6, u7, u8] = Row.cells a3 := e3.symm
  simp only [Row.cells, Bat.L, List.cons.injEq, and_true] at q3
  obtain ⟨rfl, rfl, rfl, rfl, rfl, rfl⟩ := q3
  obtain ⟨y4, t4⟩ := hf0 4 _ 1 rfl (by kernel_rfl)
  obtain ⟨a4, e4, -⟩ := DataW.trod_bool Try.underlying4 t4
  obtain rfl : u9 = _ := by simpa using e4
  have := List.all_eq_true.1 o3 (a3.reqs) (by simp [Row.cells, Bat.L])
  exact ⟨⟨a0, a1, u2, a3, a4⟩, rfl, (by first | rfl | (simp only [Row.cells, Sd.L, Bat.L]; repeat (first | rfl | refine Bool.and_eq_true_iff.2 ⟨(by first | rfl | assumption), ?_⟩))), ⟨i64_wf w0, i64_wf w1, ⟨xs2, r2, g2⟩, g3, trivial⟩⟩
/-- A slot of the document's learner, as it is read. -/
structure SdR (F : Nat → Prop) (n : Int) (w : World) (r : Sd) (p : Int × Tm) : Prop where
  sl : r.slot = p.1
  ba : r.ballot = p.2.ballot
  ch : r.chosen = decide (n / 2 + 1 ≤ (p.2.frm.length : Int))
  fi : r.batch.fill = p.2.fill
  vi : r.batch.view = p.2.view
  ti : r.batch.tip = p.2.tip
  tm : r.batch.time = p.2.time
  rq : Rs F w r.batch.reqs p.2.rs
  wh : Rs F w r.who p.2.frm
def SdA (F : Nat → Prop) (n : Int) (raws : List Sd) (hs : List (Int × Tm)) (w : World) : Prop := All2 (SdR F n w) raws hs
theorem SdR.up {F V : Nat → Prop} {n : Int} {w w' : World} {r : Sd} {p : Int × Tm} (h : SdR F n w r p) (e : Ext V w w') (hd : ∀ b, F b → ¬ V b) : SdR F n w' r p := ⟨h.sl, h.ba, h.ch, h.fi, h.vi, h.ti, h.tm, h.rq.up e hd, h.wh.up e hd⟩
theorem SdR.mono {F K : Nat → Prop} {n : Int} {w : World} {r : Sd} {p : Int × Tm} (h : SdR F n w r p) (hK : ∀ b, F b → K b) : SdR K n w r p := ⟨h.sl, h.ba, h.ch, h.fi, h.vi, h.ti, h.tm, h.rq.mono fun b _ q => hK b q, h.wh.mono fun b _ q => hK b q⟩
theorem sd_st {F : Nat → Prop} {n : Int} {raws : List Sd} {hs : List (Int × Tm)} : Ch.St F (SdA F n raws hs) := fun V w w' h e hd => All2.mono (fun _ _ q => q.up e hd) h
theorem SdA.mono {F K : Nat → Prop} {n : Int} {raws : List Sd} {hs : List (Int × Tm)} {w : World} (h : SdA F n raws hs w) (hK : ∀ b, F b → K b) : SdA K n raws hs w := All2.mono (fun _ _ q => q.mono hK) h
def RLnA (b : Nat) (n d : Int) (raws : List Sd) (FR : Nat → Prop) (w : World) : Prop :=
  ∃ v g, ObjA FR w [.B b 71 [.int .i64 n, .int .i64 d, v], .O 125 v raws g]
theorem rln_st {b : Nat} {n d : Int} {raws : List Sd} {FR : Nat → Prop} : Ch.St FR (RLnA b n d raws FR) := fun V w w' h e hd => by
  obtain ⟨v, g, h⟩ := h
  exact ⟨v, g, h.up e hd⟩
theorem RLnA.mkL {U G : Nat → Prop} {w0 w : World} {L : List Ch} {b : Nat} {n d : Int} {v : Value} {raws : List Sd} {g : Option Nat}
    (H : SH U G w0 w ([.B b 71 [.int .i64 n, .int .i64 d, v], .O 125 v raws g] ++ L)) : ∃ FN, SH U G w0 w (.P FN (RLnA b n d raws FN) :: L) :=
  ⟨_, SH.pack (A := RLnA b n d raws (foot [.B b 71 [.int .i64 n, .int .i64 d, v], .O 125 v raws g])) H ⟨trivial, trivial, trivial⟩ rln_st (fun h => ⟨v, g, h⟩)⟩
theorem RLnA.mk {U G : Nat → Prop} {w0 w : World} {b : Nat} {n d : Int} {v : Value} {raws : List Sd} {g : Option Nat}
    (H : SH U G w0 w [.B b 71 [.int .i64 n, .int .i64 d, v], .O 125 v raws g]) : ∃ FN, SH U Non w0 w [.P FN (RLnA b n d raws FN)] :=
  have ⟨FN, K⟩ := RLnA.mkL (L := []) H
  ⟨FN, SH.give (M := [.P _ _]) K (List.Sublist.refl _) ⟨trivial, trivial⟩⟩
/-- With the slice that was put in. -/
theorem RLnA.mk2 {U G : Nat → Prop} {w0 w : World} {b : Nat} {n d : Int} {v vw : Value} {raws : List Sd} {ws : List Int} {g gw : Option Nat}
    (H : SH U G w0 w [.B b 71 [.int .i64 n, .int .i64 d, v], .O 125 v raws g, .O 3 vw ws gw]) : ∃ FN, SH U Non w0 w [.P FN (RLnA b n d raws FN), .O 3 vw ws gw] :=
  have ⟨FN, K⟩ := RLnA.mkL (L := [.O 3 vw ws gw]) H
  ⟨FN, SH.give (M := [.P _ _, .O _ _ _ _]) K (List.Sublist.refl _) ⟨trivial, trivial, trivial⟩⟩
theorem look_idx {α : Type} : ∀ {l : List (Int × α)} {i : Nat} {n : Int} {t : α}, (l.map (·.1)).Nodup → l[i]? = some (n, t) → lookM l n = some t ∧ ∀ y, setM l n y = l.set i (n, y)
  | [], i, n, t, _, h => by cases h
  | p :: r, 0, n, t, _, h => by
    simp only [List.getElem?_cons_zero, Option.some.injEq] at h
    subst h
    exact ⟨by rw [lookM, if_pos rfl], fun y => by rw [setM, if_pos rfl]; rfl⟩
  | p :: r, i + 1, n, t, hn, h => by
    rw [List.getElem?_cons_succ] at h
    rw [List.map_cons, List.nodup_cons] at hn
    have hne : p.1 ≠ n := fun e => hn.1 (List.mem_map.2 ⟨_, List.mem_of_getElem? h, e.symm⟩)
    obtain ⟨h1, h2⟩ := look_idx hn.2 h
    exact ⟨by rw [lookM, if_neg hne]; exact h1, fun y => by rw [setM, if_neg hne, h2]; rfl⟩
theorem look_no {α : Type} : ∀ {l : List (Int × α)} {n : Int}, (∀ p ∈ l, p.1 ≠ n) → lookM l n = none
  | [], n, _ => rfl
  | p :: r, n, h => by rw [lookM, if_neg (h p (by simp)), look_no (fun q hq => h q (by simp [hq]))]
theorem set_last {α : Type} {l : List (Int × α)} {n : Int} {t y : α} (h : lookM l n = none) : setM l n y = (l ++ [(n, t)]).set l.length (n, y) := by
  rw [put_new h, List.set_append_right _ _ (Nat.le_refl _), Nat.sub_self]; rfl
theorem some_c (n : Int) (w : World) : Calls Try.prog 78 #[.int .i64 n] w fun e w' => e = .returned (.bool (decide (1 ≤ n) && decide (n ≤ 7))) ∧ w = w' := by
  refine calls_of_CW Try.func78 rfl Try.ntmps78 (Nat.le_of_ble_eq_true rfl) ?_
  simp only [argE, argFrom, Nat.reduceAdd]
  refine CW.seq (fun K1 h1 => ?_)
  refine CW.region ?_
  refine r_assign rfl ?_
  refine LW.nil ?_
  refine thenE_norm (h1 _ _ ?_); clear h1; try clear K1
  refine CW.seq (fun K2 h2 => ?_)
  refine CW.region ?_
  refine r_move rfl ?_
  refine r_geq rfl rfl rfl ?_
  refine r_move rfl ?_
  refine' LW.grpAnd (n := 3) (ts := []) (d := 8) (tj := 5) rfl (fun hg1_3 => ?_) (fun hg1_3 => ?_) (fun σ => ?_)
  rotate_left
  · simp only [List.take_succ_cons, List.take_zero]
    have hg1_3P := hg1_3
    try simp only [decide_eq_true_eq, decide_eq_false_iff_not, Bool.and_eq_true, Bool.or_eq_true, Bool.and_eq_false_iff, Bool.or_eq_false_iff, Bool.not_eq_true', Bool.not_eq_false', beq_iff_eq, bne_iff_ne] at hg1_3P
    refine LW.want rfl rfl hg1_3 ?_
    refine r_move rfl ?_
    refine LW.want rfl rfl hg1_3 ?_
    refine r_leq rfl rfl rfl ?_
    refine r_pickT rfl rfl hg1_3 ?_
    refine LW.nil (thenE_norm ⟨rfl, rfl, rfl⟩)
  · simp only [List.take_succ_cons, List.take_zero]
    refine LW.skip rfl (fun _ e => by cases e; decide) rfl hg1_3 ?_
    refine LW.skip rfl (fun _ e => by cases e; decide) rfl hg1_3 ?_
    refine r_pickF rfl rfl hg1_3 ?_
    refine LW.nil (thenE_norm ⟨rfl, rfl, rfl⟩)
  simp only [setL, keepE, upd_get, ev, Nat.reduceEqDiff, ↓reduceIte]; simp only [List.drop_succ_cons, List.drop_zero]
  refine r_assign rfl ?_
  refine LW.nil ?_
  refine thenE_norm (h2 _ _ ?_); clear h2; try clear K2
  refine CW.ret (ret1 Try.results78 (by simp only [upd_get, ev, Nat.reduceEqDiff, ↓reduceIte]; rfl) ?_)
  exact ⟨rfl, rfl⟩
theorem QuorumR_c (n : Int) (w : World) (hn : 1 ≤ n ∧ n ≤ 7) : Calls Try.prog 81 #[.int .i64 n] w fun e w' => e = .returned (.int .i64 (n / 2 + 1)) ∧ w = w' := by
  refine calls_of_CW Try.func81 rfl Try.ntmps81 (Nat.le_of_ble_eq_true rfl) ?_
  simp only [argE, argFrom, Nat.reduceAdd]
  refine CW.seq (fun K1 h1 => ?_)
  refine CW.region ?_
  refine r_assign rfl ?_
  refine LW.nil ?_
  refine thenE_norm (h1 _ _ ?_); clear h1; try clear K1
  refine CW.seq (fun K2 h2 => ?_)
  refine CW.seq (fun K3 h3 => ?_)
  refine CW.region ?_
  refine r_move rfl ?_
  refine r_call rfl Try.call78 (by simp only [List.map_cons, List.map_nil, List.map_toArray, List.toList_toArray, upd_get, ev, Nat.reduceEqDiff, ↓reduceIte] <;> rfl) (some_c _ _) ?_
  rintro _ _ ⟨rfl, rfl⟩
  refine ⟨_, rfl, ?_⟩
  refine r_not rfl rfl ?_
  refine LW.nil ?_
  refine thenE_norm (h3 _ _ ?_); clear h3; try clear K3
  refine CW.condF rfl (by simp; omega) ?_
  refine CW.skip ?_
  refine thenE_norm (h2 _ _ ?_); clear h2; try clear K2
  refine CW.seq (fun K4 h4 => ?_)
  refine CW.region ?_
  refine r_move rfl ?_
  refine r_quo rfl rfl rfl (by omega) (by decide) (wr_i64 (by omega) (by omega)) ?_
  refine r_add rfl rfl rfl (wr_i64 (by omega) (by omega)) ?_
  refine r_assign rfl ?_
  refine LW.nil ?_
  refine thenE_norm ?_
  refine cut (K := K4) [2] (fun σ => ?_)
  simp only [setL, keepE, upd_get, ev, Nat.reduceEqDiff, ↓reduceIte]
  refine h4 _ _ ?_; clear h4; try clear K4
  refine CW.ret (ret1 Try.results81 (by simp only [upd_get, ev, Nat.reduceEqDiff, ↓reduceIte]; rfl) ?_)
  exact ⟨rfl, rfl⟩
theorem RLnNew_c (n : Int) (w : World) (hn : 1 ≤ n ∧ n ≤ 7) : Calls Try.prog 33 #[.int .i64 n] w fun e w' => ∃ p FN, e = .returned (.pointer (some ⟨p, 0, none⟩)) ∧ SH Non Non w w' [.P FN (RLnA p n 0 [] FN)] := by
  have H := SH.start (U := Non) (G := Any) w
  refine calls_of_CW Try.func33 rfl Try.ntmps33 (Nat.le_of_ble_eq_true rfl) ?_
  simp only [argE, argFrom, Nat.reduceAdd]
  refine CW.seq (fun K1 h1 => ?_)
  refine CW.region ?_
  refine r_assign rfl ?_
  refine LW.nil ?_
  refine thenE_norm (h1 _ _ ?_); clear h1; try clear K1
  refine CW.seq (fun K2 h2 => ?_)
  refine CW.seq (fun K3 h3 => ?_)
  refine CW.region ?_
  refine r_move rfl ?_
  refine r_call rfl Try.call78 (by simp only [List.map_cons, List.map_nil, List.map_toArray, List.toList_toArray, upd_get, ev, Nat.reduceEqDiff, ↓reduceIte] <;> rfl) (some_c _ _) ?_
  rintro _ _ ⟨rfl, rfl⟩
  refine ⟨_, rfl, ?_⟩
  refine r_not rfl rfl ?_
  refine LW.nil ?_
  refine thenE_norm (h3 _ _ ?_); clear h3; try clear K3
  refine CW.condF rfl (by rw [decide_eq_true hn.1, decide_eq_true hn.2]; rfl) ?_
  refine CW.skip ?_
  refine thenE_norm (h2 _ _ ?_); clear h2; try clear K2
  refine CW.seq (fun K4 h4 => ?_)
  refine CW.region ?_
  refine r_move rfl ?_
  refine r_buildQ rfl Try.underlying71 Try.zeroValue71 rfl (pl := [(0, 1), (1, 1), (2, 1)]) (by intro w; simp [go_sem]) (qs := [(0, [_])]) (cs := [_, .int .i64 0, .slice none 0 0]) ⟨rfl, cells_one (by simp only [upd_get, ev, Nat.reduceEqDiff, ↓reduceIte] <;> rfl) (by first | rfl | exact Rs.oneC (by first | assumption | exact SH.rsR H (by (repeat first | exact At.here | apply At.there); done) | exact SH.rsO H (by (repeat first | exact At.here | apply At.there); done) | exact (Rs.nil : Rs Non _ _ _))), trivial⟩ rfl ?_
  refine s_box H rfl (by simp only [upd_get, ev, Nat.reduceEqDiff, ↓reduceIte] <;> rfl) rfl ?_
  clear H
  intro b3_2 w3_2 H
  try dsimp only [replC, List.cons_append, List.nil_append, List.append_nil, agg, cellsL, Value.cells, List.toList_toArray, List.set_cons_zero, List.set_cons_succ, spliceL, List.take_succ_cons, List.take_zero, List.drop_succ_cons, List.drop_zero, List.length_cons, List.length_nil, Nat.reduceAdd, Row.cells, Cm.L, Rq.L, Tp.L, Bat.L, Ty.L, Sd.L] at H
  refine r_assign rfl ?_
  refine LW.nil ?_
  refine thenE_norm ?_
  refine cut (K := K4) [2] (fun σ => ?_)
  simp only [setL, keepE, upd_get, ev, Nat.reduceEqDiff, ↓reduceIte]
  refine h4 _ _ ?_; clear h4; try clear K4
  refine CW.ret (ret1 Try.results33 (by simp only [upd_get, ev, Nat.reduceEqDiff, ↓reduceIte]; rfl) ?_)
  obtain ⟨FN, K⟩ := RLnA.mk (H.addO (α := Sd) 125)
  exact ⟨_, _, rfl, K⟩
theorem RLnNewZ_c (n : Int) (w : World) (hn : ¬ (1 ≤ n ∧ n ≤ 7)) : Calls Try.prog 33 #[.int .i64 n] w fun e w' => e = .returned (.pointer none) ∧ w = w' := by
  refine calls_of_CW Try.func33 rfl Try.ntmps33 (Nat.le_of_ble_eq_true rfl) ?_
  simp only [argE, argFrom, Nat.reduceAdd]
  refine CW.seq (fun K1 h1 => ?_)
  refine CW.region ?_
  refine r_assign rfl ?_
  refine LW.nil ?_
  refine thenE_norm (h1 _ _ ?_); clear h1; try clear K1
  refine CW.seq (fun K2 h2 => ?_)
  refine CW.seq (fun K3 h3 => ?_)
  refine CW.region ?_
  refine r_move rfl ?_
  refine r_call rfl Try.call78 (by simp only [List.map_cons, List.map_nil, List.map_toArray, List.toList_toArray, upd_get, ev, Nat.reduceEqDiff, ↓reduceIte] <;> rfl) (some_c _ _) ?_
  rintro _ _ ⟨rfl, rfl⟩
  refine ⟨_, rfl, ?_⟩
  refine r_not rfl rfl ?_
  refine LW.nil ?_
  refine thenE_norm (h3 _ _ ?_); clear h3; try clear K3
  refine CW.condT rfl (by
  by_cases h1 : 1 ≤ n
  · have h2 : ¬ n ≤ 7 := fun h => hn ⟨h1, h⟩
    rw [decide_eq_false h2, Bool.and_false]; rfl
  · rw [decide_eq_false h1]; rfl) ?_
  refine CW.seq (fun K4 h4 => ?_)
  refine CW.region ?_
  refine r_assign rfl ?_
  refine LW.nil ?_
  refine thenE_norm (h4 _ _ ?_); clear h4; try clear K4
  refine CW.ret (thenE_ret (ret1 Try.results33 (by simp only [upd_get, ev, Nat.reduceEqDiff, ↓reduceIte]; rfl) ?_))
  exact ⟨rfl, rfl⟩
theorem at_c {F : Nat → Prop} {b : Nat} {E : TypeId} {n d : Int} {v : Value} {raws : List Sd} (sl : Int) (w : World) (hB : Blk w b E [.int .i64 n, .int .i64 d, v]) (hv : Rs F w v raws) :
    Calls Try.prog 80 #[.pointer (some ⟨b, 0, none⟩), .int .i64 sl] w fun e w' => ∃ z : Int, e = .returned (.int .i64 z) ∧ w = w' ∧ ((z = -1 ∧ ∀ r ∈ raws, r.slot ≠ sl) ∨ ∃ (q : Nat) (r : Sd), z = q ∧ raws[q]? = some r ∧ r.slot = sl) := by
  have hp2 : w.cell? ⟨b, 0 + 2, none⟩ = some v := hB.cell (o := 2) rfl
  have h63 := hv.len63
  have H := SH.start (U := Non) (G := Any) w
  refine calls_of_CW Try.func80 rfl Try.ntmps80 (Nat.le_of_ble_eq_true rfl) ?_
  simp only [argE, argFrom, Nat.reduceAdd]
  refine CW.seq (fun K1 h1 => ?_)
  refine CW.region ?_
  refine r_assign rfl ?_
  refine LW.nil ?_
  refine thenE_norm (h1 _ _ ?_); clear h1; try clear K1
  refine CW.seq (fun K2 h2 => ?_)
  refine CW.seq (fun K3 h3 => ?_)
  refine CW.region ?_
  refine r_assign rfl ?_
  refine LW.nil ?_
  refine thenE_norm (h3 _ _ ?_); clear h3; try clear K3
  refine CW.block ?_
  refine CW.loopR [0, 1] [5] (fun m vs w' => ∃ i : Nat, vs = [.int .i64 i] ∧ i ≤ raws.length ∧ m = raws.length - i ∧ (∀ (j : Nat) (r : Sd), j < i → raws[j]? = some r → r.slot ≠ sl) ∧ w = w') (raws.length) ?_ ?_
  · exact ⟨0, rfl, by omega, by omega, fun j r hj => by omega, rfl⟩
  try clear H
  rintro n1 vs1 wL1 σ ⟨i, rfl, hi, rfl, hno, rfl⟩
  simp only [setL, keepE, upd_get, ev, Nat.reduceEqDiff, ↓reduceIte]
  refine CW.seq (fun K4 h4 => ?_)
  refine CW.seq (fun K5 h5 => ?_)
  refine CW.region ?_
  refine r_move rfl ?_
  refine r_move rfl ?_
  refine r_nilCheck rfl rfl ?_
  refine r_fieldAddrO rfl Try.underlying71 rfl Try.sizeOf69 (by decide) (show _ = 2 from rfl) rfl ?_
  refine r_load rfl Try.isAgg69 rfl hp2 ?_
  first
    | refine r_lenV rfl Try.underlying69 (by simp only [upd_get, ev, Nat.reduceEqDiff, ↓reduceIte] <;> rfl) hv ?_
    | refine r_len rfl Try.underlying69 rfl ?_
  refine r_lss rfl rfl rfl ?_
  refine LW.nil ?_
  refine thenE_norm (h5 _ _ ?_); clear h5; try clear K5
  refine CW.cond rfl (fun hc1 => ?_) (fun hc1 => ?_)
  · try simp only [decide_eq_true_eq, decide_eq_false_iff_not, Bool.and_eq_true, Bool.or_eq_true, Bool.and_eq_false_iff, Bool.or_eq_false_iff, Bool.not_eq_true', Bool.not_eq_false', beq_iff_eq, bne_iff_ne, ne_eq, Decidable.not_not] at hc1
    refine CW.skip ?_
    refine thenE_norm (h4 _ _ ?_); clear h4; try clear K4
    refine CW.seq (fun K6 h6 => ?_)
    refine CW.block ?_
    refine CW.seq (fun K7 h7 => ?_)
    obtain ⟨r, hr⟩ := get_of_lt (show i < raws.length by omega)
    refine CW.region ?_
    refine r_move rfl ?_
    refine r_nilCheck rfl rfl ?_
    refine r_fieldAddrO rfl Try.underlying71 rfl Try.sizeOf69 (by decide) (show _ = 2 from rfl) rfl ?_
    refine r_load rfl Try.isAgg69 rfl hp2 ?_
    refine r_move rfl ?_
    refine r_indexAddrV rfl Try.underlying69 (by simp only [upd_get, ev, Nat.reduceEqDiff, ↓reduceIte] <;> rfl) rfl hv (by exact Try.sizeOf125) (by omega) (by omega) ?_
    refine r_fieldAddrO rfl Try.underlying125 rfl Try.sizeOf3 (by decide) (show _ + 0 = _ from rfl) rfl ?_
    refine r_load rfl Try.isAgg3 rfl (by first | exact Rs.cell (by first | assumption | exact SH.rsR H (by (repeat first | exact At.here | apply At.there); done) | exact SH.rsO H (by (repeat first | exact At.here | apply At.there); done) | exact (Rs.nil : Rs Non _ _ _)) (by assumption) (by rfl) | exact Rs.cell0 (by first | assumption | exact SH.rsR H (by (repeat first | exact At.here | apply At.there); done) | exact SH.rsO H (by (repeat first | exact At.here | apply At.there); done) | exact (Rs.nil : Rs Non _ _ _)) (by assumption) (by rfl) | assumption) ?_
    refine r_move rfl ?_
    refine r_eql rfl rfl rfl ?_
    refine LW.nil ?_
    refine thenE_norm ?_
    refine cut (K := K7) [0, 1, 5, 24] (fun σ => ?_)
    simp only [setL, keepE, upd_get, ev, Nat.reduceEqDiff, ↓reduceIte]
    refine h7 _ _ ?_; clear h7; try clear K7
    refine CW.cond rfl (fun hc2 => ?_) (fun hc2 => ?_)
    · try simp only [decide_eq_true_eq, decide_eq_false_iff_not, Bool.and_eq_true, Bool.or_eq_true, Bool.and_eq_false_iff, Bool.or_eq_false_iff, Bool.not_eq_true', Bool.not_eq_false', beq_iff_eq, bne_iff_ne, ne_eq, Decidable.not_not] at hc2
      refine CW.seq (fun K8 h8 => ?_)
      refine CW.region ?_
      refine r_move rfl ?_
      refine r_assign rfl ?_
      refine LW.nil ?_
      refine thenE_norm (h8 _ _ ?_); clear h8; try clear K8
      refine CW.ret (blockE_ret (thenE_ret (thenE_ret (blockE_ret (thenE_ret (ret1 Try.results80 (by simp only [upd_get, ev, Nat.reduceEqDiff, ↓reduceIte]; rfl) ?_))))))
      exact ⟨_, rfl, rfl, .inr ⟨i, r, rfl, hr, hc2⟩⟩
    · try simp only [decide_eq_true_eq, decide_eq_false_iff_not, Bool.and_eq_true, Bool.or_eq_true, Bool.and_eq_false_iff, Bool.or_eq_false_iff, Bool.not_eq_true', Bool.not_eq_false', beq_iff_eq, bne_iff_ne, ne_eq, Decidable.not_not] at hc2
      refine CW.skip ?_
      refine blockE_norm ?_
      refine thenE_norm (h6 _ _ ?_); clear h6; try clear K6
      refine CW.region ?_
      refine r_move rfl ?_
      refine r_add rfl rfl rfl (wr_i64 (by omega) (by omega)) ?_
      refine r_assign rfl ?_
      refine LW.nil ?_
      refine thenE_norm ⟨rfl, ?_⟩
      exact ⟨raws.length - (i + 1), by omega, i + 1, rfl, by omega, rfl, fun j y hj hy => by
        by_cases hji : j = i
        · subst hji; rw [hr] at hy; cases hy; exact hc2
        · exact hno j y (by omega) hy, rfl⟩
  · try simp only [decide_eq_true_eq, decide_eq_false_iff_not, Bool.and_eq_true, Bool.or_eq_true, Bool.and_eq_false_iff, Bool.or_eq_false_iff, Bool.not_eq_true', Bool.not_eq_false', beq_iff_eq, bne_iff_ne, ne_eq, Decidable.not_not] at hc1
    refine CW.exit (thenE_exit (thenE_exit (blockE_hit ?_)))
    refine thenE_norm (h2 _ _ ?_); clear h2; try clear K2
    refine CW.seq (fun K9 h9 => ?_)
    refine CW.region ?_
    refine r_assign rfl ?_
    refine LW.nil ?_
    refine thenE_norm ?_
    refine cut (K := K9) [4] (fun σ => ?_)
    simp only [setL, keepE, upd_get, ev, Nat.reduceEqDiff, ↓reduceIte]
    refine h9 _ _ ?_; clear h9; try clear K9
    refine CW.ret (ret1 Try.results80 (by simp only [upd_get, ev, Nat.reduceEqDiff, ↓reduceIte]; rfl) ?_)
    exact ⟨_, rfl, rfl, .inl ⟨rfl, fun y hy => by
      obtain ⟨j, hj⟩ := List.mem_iff_getElem?.1 hy
      have hjl := lt_of_get hj
      exact hno j y (by omega) hj⟩⟩
set_option maxHeartbeats 8000000 in
theorem RTrimL_c {b : Nat} {n dn : Int} {raws : List Sd} {FR : Nat → Prop} (d : Int) (w : World) (hR : RLnA b n dn raws FR w) (hlen : raws.length ≤ 1000) :
    Calls Try.prog 35 #[.pointer (some ⟨b, 0, none⟩), .int .i64 d] w fun e w' => ∃ FR', e = .returned (.tuple #[]) ∧ SH FR Non w w' [.P FR' (RLnA b n (if d ≤ dn ∨ 2305843009213693952 < d then dn else d) (if d ≤ dn ∨ 2305843009213693952 < d then raws else raws.filter fun r => decide (d < r.slot)) FR')] := by
  obtain ⟨v, g, hA⟩ := hR
  have H := SH.obj (G := Any) hA
  refine calls_of_CW Try.func35 rfl Try.ntmps35 (Nat.le_of_ble_eq_true rfl) ?_
  simp only [argE, argFrom, Nat.reduceAdd]
  refine CW.seq (fun K1 h1 => ?_)
  refine CW.seq (fun K2 h2 => ?_)
  refine CW.region ?_
  refine r_move rfl ?_
  refine r_move rfl ?_
  refine r_nilCheck rfl rfl ?_
  refine r_fieldAddrO rfl Try.underlying71 rfl Try.sizeOf3 (by decide) (show _ = 1 from rfl) rfl ?_
  refine r_load rfl Try.isAgg3 rfl (by first | exact SH.cellB H (by (repeat first | exact At.here | apply At.there); done) (by rfl) | exact SH.cellI H (by (repeat first | exact At.here | apply At.there); done) (by rfl) | assumption) ?_
  refine r_leq rfl rfl rfl ?_
  refine r_move rfl ?_
  refine' LW.grpOr (n := 3) (ts := [0, 1]) (d := 15) (tj := 12) rfl (fun hg0_7 => ?_) (fun hg0_7 => ?_) (fun σ => ?_)
  rotate_left
  · simp only [List.take_succ_cons, List.take_zero]
    have hg0_7P := hg0_7
    try simp only [decide_eq_true_eq, decide_eq_false_iff_not, Bool.and_eq_true, Bool.or_eq_true, Bool.and_eq_false_iff, Bool.or_eq_false_iff, Bool.not_eq_true', Bool.not_eq_false', beq_iff_eq, bne_iff_ne] at hg0_7P
    refine LW.want rfl rfl hg0_7 ?_
    refine r_move rfl ?_
    refine LW.want rfl rfl hg0_7 ?_
    refine r_gtr rfl rfl rfl ?_
    refine r_pickF rfl rfl hg0_7 ?_
    refine LW.nil (thenE_norm ⟨rfl, rfl, rfl⟩)
  · simp only [List.take_succ_cons, List.take_zero]
    refine LW.skip rfl (fun _ e => by cases e; decide) rfl hg0_7 ?_
    refine LW.skip rfl (fun _ e => by cases e; decide) rfl hg0_7 ?_
    refine r_pickT rfl rfl hg0_7 ?_
    refine LW.nil (thenE_norm ⟨rfl, rfl, rfl⟩)
  simp only [setL, keepE, upd_get, ev, Nat.reduceEqDiff, ↓reduceIte]; simp only [List.drop_succ_cons, List.drop_zero]
  refine LW.nil ?_
  refine thenE_norm (h2 _ _ ?_); clear h2; try clear K2
  refine CW.cond rfl (fun hc1 => ?_) (fun hc1 => ?_)
  · try simp only [decide_eq_true_eq, decide_eq_false_iff_not, Bool.and_eq_true, Bool.or_eq_true, Bool.and_eq_false_iff, Bool.or_eq_false_iff, Bool.not_eq_true', Bool.not_eq_false', beq_iff_eq, bne_iff_ne, ne_eq, Decidable.not_not] at hc1
    refine CW.ret (thenE_ret (ret0 Try.results35 ?_))
    rw [if_pos (show d ≤ dn ∨ 2305843009213693952 < d by first | assumption | omega), if_pos (show d ≤ dn ∨ 2305843009213693952 < d by first | assumption | omega)]
    obtain ⟨FN', K⟩ := RLnA.mk (SH.sel H [0, 1] (by decide) (by rfl))
    exact ⟨_, rfl, K⟩
  · try simp only [decide_eq_true_eq, decide_eq_false_iff_not, Bool.and_eq_true, Bool.or_eq_true, Bool.and_eq_false_iff, Bool.or_eq_false_iff, Bool.not_eq_true', Bool.not_eq_false', beq_iff_eq, bne_iff_ne, ne_eq, Decidable.not_not] at hc1
    refine CW.skip ?_
    refine thenE_norm (h1 _ _ ?_); clear h1; try clear K1
    refine CW.seq (fun K3 h3 => ?_)
    refine CW.region ?_
    refine r_move rfl ?_
    refine r_move rfl ?_
    refine r_nilCheck rfl rfl ?_
    refine r_fieldAddrO rfl Try.underlying71 rfl Try.sizeOf3 (by decide) (show _ = 1 from rfl) rfl ?_
    refine s_store H Try.sizeOf3 rfl (by simp only [upd_get, ev, Nat.reduceEqDiff, ↓reduceIte] <;> rfl) (by first | rfl | assumption | exact Rs.oneC (by first | assumption | exact SH.rsR H (by (repeat first | exact At.here | apply At.there); done) | exact SH.rsO H (by (repeat first | exact At.here | apply At.there); done) | exact (Rs.nil : Rs Non _ _ _)) | (simp only [List.all_cons, List.all_nil, Bool.and_true, Bool.and_eq_true, Row.cells, Cm.L, Rq.L, Tp.L, Bat.L, Ty.L, Sd.L]; (repeat' constructor) <;> first | rfl | assumption | exact Rs.oneC (by first | assumption | exact SH.rsR H (by (repeat first | exact At.here | apply At.there); done) | exact SH.rsO H (by (repeat first | exact At.here | apply At.there); done) | exact (Rs.nil : Rs Non _ _ _)))) (by (repeat first | exact At.here | apply At.there); done) (by first | (simp; done) | decide | omega) ?_
    clear H
    intro w1_4 H
    try dsimp only [replC, List.cons_append, List.nil_append, List.append_nil, agg, cellsL, Value.cells, List.toList_toArray, List.set_cons_zero, List.set_cons_succ, spliceL, List.take_succ_cons, List.take_zero, List.drop_succ_cons, List.drop_zero, List.length_cons, List.length_nil, Nat.reduceAdd, Row.cells, Cm.L, Rq.L, Tp.L, Bat.L, Ty.L, Sd.L] at H
    refine LW.nil ?_
    refine thenE_norm (h3 _ _ ?_); clear h3; try clear K3
    refine CW.seq (fun K4 h4 => ?_)
    refine CW.region ?_
    refine r_assign rfl ?_
    refine LW.nil ?_
    refine thenE_norm (h4 _ _ ?_); clear h4; try clear K4
    refine CW.seq (fun K5 h5 => ?_)
    refine CW.seq (fun K6 h6 => ?_)
    refine CW.region ?_
    refine r_assign rfl ?_
    refine LW.nil ?_
    refine thenE_norm (h6 _ _ ?_); clear h6; try clear K6
    refine CW.block ?_
    refine CW.loopR [0, 1] [4, 5] (fun m vs w' => ∃ (i : Nat) (u : Value) (gu : Option Nat), vs = [u, .int .i64 i] ∧ i ≤ raws.length ∧ m = raws.length - i ∧ SH FR Any w w' [.B b 71 [.int .i64 n, .int .i64 d, v], .O 125 v raws g, .O 125 u ((raws.take i).filter fun r => decide (d < r.slot)) gu]) (raws.length) ?_ ?_
    · exact ⟨0, .slice none 0 0, none, rfl, by omega, by omega, by rw [List.take_zero, List.filter_nil]; exact SH.sel (H.addO (α := Sd) 125) [0, 1, 2] (by decide) rfl⟩
    try clear H
    rintro n1 vs1 wL1 σ ⟨i, u, gu, rfl, hi, rfl, H⟩
    simp only [setL, keepE, upd_get, ev, Nat.reduceEqDiff, ↓reduceIte]
    refine CW.seq (fun K7 h7 => ?_)
    refine CW.seq (fun K8 h8 => ?_)
    refine CW.region ?_
    refine r_move rfl ?_
    refine r_move rfl ?_
    refine r_nilCheck rfl rfl ?_
    refine r_fieldAddrO rfl Try.underlying71 rfl Try.sizeOf69 (by decide) (show _ = 2 from rfl) rfl ?_
    refine r_load rfl Try.isAgg69 rfl (by first | exact SH.cellB H (by (repeat first | exact At.here | apply At.there); done) (by rfl) | exact SH.cellI H (by (repeat first | exact At.here | apply At.there); done) (by rfl) | assumption) ?_
    first
      | refine r_lenV rfl Try.underlying69 (by simp only [upd_get, ev, Nat.reduceEqDiff, ↓reduceIte] <;> rfl) (by first | assumption | exact SH.rsR H (by (repeat first | exact At.here | apply At.there); done) | exact SH.rsO H (by (repeat first | exact At.here | apply At.there); done) | exact (Rs.nil : Rs Non _ _ _)) ?_
      | refine r_len rfl Try.underlying69 rfl ?_
    refine r_lss rfl rfl rfl ?_
    refine LW.nil ?_
    refine thenE_norm (h8 _ _ ?_); clear h8; try clear K8
    refine CW.cond rfl (fun hc2 => ?_) (fun hc2 => ?_)
    · try simp only [decide_eq_true_eq, decide_eq_false_iff_not, Bool.and_eq_true, Bool.or_eq_true, Bool.and_eq_false_iff, Bool.or_eq_false_iff, Bool.not_eq_true', Bool.not_eq_false', beq_iff_eq, bne_iff_ne, ne_eq, Decidable.not_not] at hc2
      refine CW.skip ?_
      refine thenE_norm (h7 _ _ ?_); clear h7; try clear K7
      refine CW.seq (fun K9 h9 => ?_)
      refine CW.block ?_
      refine CW.seq (fun K10 h10 => ?_)
      obtain ⟨r, hr⟩ := get_of_lt (show i < raws.length by omega)
      have hro := (SH.rsO H (i := 1) rfl).2 _ (List.mem_of_getElem? hr)
      have htk := V.take_snoc hr
      have hfl : ((raws.take i).filter fun r => decide (d < r.slot)).length ≤ 1000 := Nat.le_trans (List.length_filter_le _ _) (by rw [List.length_take]; omega)
      obtain ⟨r1, r2, r3, ⟨r4, r5, ⟨r6, r7⟩, r8, r9⟩, r10⟩ := r
      have hro3 : oneC r3 = true := List.all_eq_true.1 hro r3 (by simp [Row.cells, Sd.L])
      have hro9 : oneC r9 = true := List.all_eq_true.1 hro r9 (by simp [Row.cells, Sd.L])
      refine CW.region ?_
      refine r_move rfl ?_
      refine r_nilCheck rfl rfl ?_
      refine r_fieldAddrO rfl Try.underlying71 rfl Try.sizeOf69 (by decide) (show _ = 2 from rfl) rfl ?_
      refine r_load rfl Try.isAgg69 rfl (by first | exact SH.cellB H (by (repeat first | exact At.here | apply At.there); done) (by rfl) | exact SH.cellI H (by (repeat first | exact At.here | apply At.there); done) (by rfl) | assumption) ?_
      refine r_move rfl ?_
      refine r_indexAddrV rfl Try.underlying69 (by simp only [upd_get, ev, Nat.reduceEqDiff, ↓reduceIte] <;> rfl) rfl (by first | assumption | exact SH.rsR H (by (repeat first | exact At.here | apply At.there); done) | exact SH.rsO H (by (repeat first | exact At.here | apply At.there); done) | exact (Rs.nil : Rs Non _ _ _)) (by exact Try.sizeOf125) (by omega) (by omega) ?_
      refine r_fieldAddrO rfl Try.underlying125 rfl Try.sizeOf3 (by decide) (show _ + 0 = _ from rfl) rfl ?_
      refine r_load rfl Try.isAgg3 rfl (by first | exact Rs.cell (by first | assumption | exact SH.rsR H (by (repeat first | exact At.here | apply At.there); done) | exact SH.rsO H (by (repeat first | exact At.here | apply At.there); done) | exact (Rs.nil : Rs Non _ _ _)) (by assumption) (by rfl) | exact Rs.cell0 (by first | assumption | exact SH.rsR H (by (repeat first | exact At.here | apply At.there); done) | exact SH.rsO H (by (repeat first | exact At.here | apply At.there); done) | exact (Rs.nil : Rs Non _ _ _)) (by assumption) (by rfl) | assumption) ?_
      refine r_move rfl ?_
      refine r_gtr rfl rfl rfl ?_
      refine LW.nil ?_
      refine thenE_norm ?_
      refine cut (K := K10) [0, 1, 4, 5, 38] (fun σ => ?_)
      simp only [setL, keepE, upd_get, ev, Nat.reduceEqDiff, ↓reduceIte]
      refine h10 _ _ ?_; clear h10; try clear K10
      refine CW.cond rfl (fun hc3 => ?_) (fun hc3 => ?_)
      · try simp only [decide_eq_true_eq, decide_eq_false_iff_not, Bool.and_eq_true, Bool.or_eq_true, Bool.and_eq_false_iff, Bool.or_eq_false_iff, Bool.not_eq_true', Bool.not_eq_false', beq_iff_eq, bne_iff_ne, ne_eq, Decidable.not_not] at hc3
        refine CW.region ?_
        refine r_move rfl ?_
        refine r_move rfl ?_
        refine r_nilCheck rfl rfl ?_
        refine r_fieldAddrO rfl Try.underlying71 rfl Try.sizeOf69 (by decide) (show _ = 2 from rfl) rfl ?_
        refine r_load rfl Try.isAgg69 rfl (by first | exact SH.cellB H (by (repeat first | exact At.here | apply At.there); done) (by rfl) | exact SH.cellI H (by (repeat first | exact At.here | apply At.there); done) (by rfl) | assumption) ?_
        refine r_move rfl ?_
        refine r_indexAddrV rfl Try.underlying69 (by simp only [upd_get, ev, Nat.reduceEqDiff, ↓reduceIte] <;> rfl) rfl (by first | assumption | exact SH.rsR H (by (repeat first | exact At.here | apply At.there); done) | exact SH.rsO H (by (repeat first | exact At.here | apply At.there); done) | exact (Rs.nil : Rs Non _ _ _)) (by exact Try.sizeOf125) (by omega) (by omega) ?_
        refine r_loadA rfl Try.isAgg125 Try.sizeOf125 rfl (by first | exact Rs.cells0 (by first | assumption | exact SH.rsR H (by (repeat first | exact At.here | apply At.there); done) | exact SH.rsO H (by (repeat first | exact At.here | apply At.there); done) | exact (Rs.nil : Rs Non _ _ _)) (by assumption)) (by rfl) ?_
        refine r_buildSliceA (vs := [_]) rfl Try.underlying69 Try.sizeOf125 Try.zeroValue125 rfl rfl rfl rfl (by simp only [List.map_cons, List.map_nil, List.toList_toArray, numbered, Nat.reduceAdd, upd_get, ev, Nat.reduceEqDiff, ↓reduceIte] <;> rfl) rfl (by intro v hv; simp only [List.mem_cons, List.not_mem_nil, or_false] at hv; rcases hv with rfl <;> rfl) ?_
        intro b7_8 w7_8 hb7_8 hs7_8 hE7_8 hB7_8
        replace H := SH.call H (SH.fromB hE7_8 hb7_8 hs7_8 hB7_8)
        clear hb7_8 hs7_8 hE7_8 hB7_8
        try dsimp only [replC, List.cons_append, List.nil_append, List.append_nil, agg, cellsL, Value.cells, List.toList_toArray, List.set_cons_zero, List.set_cons_succ, spliceL, List.take_succ_cons, List.take_zero, List.drop_succ_cons, List.drop_zero, List.length_cons, List.length_nil, Nat.reduceAdd, Row.cells, Cm.L, Rq.L, Tp.L, Bat.L, Ty.L, Sd.L] at H
        replace H := SH.row (b := b7_8) (xs := ([⟨r1, r2, r3, ⟨r4, r5, ⟨r6, r7⟩, r8, r9⟩, r10⟩] : List Sd)) (n := 1) (cap := 1) H (by (repeat first | exact At.here | apply At.there); done) (by simp only [flat, List.flatMap_cons, List.flatMap_nil, cellsL, agg, List.append_nil, List.cons_append, List.nil_append, List.toList_toArray, Row.cells, Cm.L, Rq.L, Tp.L, Bat.L, Ty.L, Sd.L] <;> rfl) (by intro x hx; first | rfl | (simp at hx; done) | (simp only [List.mem_cons, List.not_mem_nil, or_false] at hx; rcases hx with rfl <;> first | rfl | exact (by first | rfl | assumption | exact Rs.oneC (by first | assumption | exact SH.rsR H (by (repeat first | exact At.here | apply At.there); done) | exact SH.rsO H (by (repeat first | exact At.here | apply At.there); done) | exact (Rs.nil : Rs Non _ _ _)) | (simp only [List.all_cons, List.all_nil, Bool.and_true, Bool.and_eq_true, Row.cells, Cm.L, Rq.L, Tp.L, Bat.L, Ty.L, Sd.L]; (repeat' constructor) <;> first | rfl | assumption | exact Rs.oneC (by first | assumption | exact SH.rsR H (by (repeat first | exact At.here | apply At.there); done) | exact SH.rsO H (by (repeat first | exact At.here | apply At.there); done) | exact (Rs.nil : Rs Non _ _ _)))))) (by rfl) rfl (by decide)
        try dsimp only [replC, List.cons_append, List.nil_append, List.append_nil, agg, cellsL, Value.cells, List.toList_toArray, List.set_cons_zero, List.set_cons_succ, spliceL, List.take_succ_cons, List.take_zero, List.drop_succ_cons, List.drop_zero, List.length_cons, List.length_nil, Nat.reduceAdd, Row.cells, Cm.L, Rq.L, Tp.L, Bat.L, Ty.L, Sd.L] at H
        refine s_append H rfl Try.underlying69 Try.underlying69 Try.type125 rfl (by simp only [upd_get, ev, Nat.reduceEqDiff, ↓reduceIte] <;> rfl) (by simp only [upd_get, ev, Nat.reduceEqDiff, ↓reduceIte] <;> rfl) (by (repeat first | exact At.here | apply At.there); done) (by first | assumption | exact SH.rsR H (by (repeat first | exact At.here | apply At.there); done) | exact SH.rsO H (by (repeat first | exact At.here | apply At.there); done) | exact (Rs.nil : Rs Non _ _ _)) (by rfl) (by rfl) (by first | omega | (simp only [Try.t125, List.length_append, List.length_cons, List.length_nil, List.length_map, maxLen]; omega) | (simp [Try.t125, maxLen]; omega)) (by first | omega | (simp only [Try.t125, List.length_append, List.length_cons, List.length_nil, List.length_map, maxLen]; omega) | (simp [Try.t125, maxLen]; omega)) ?_
        clear H
        intro v7_9 w7_9 g7_9 H hN7_9
        try dsimp only [replC, List.cons_append, List.nil_append, List.append_nil] at H
        refine r_assign rfl ?_
        refine LW.nil ?_
        refine blockE_norm ?_
        refine thenE_norm (h9 _ _ ?_); clear h9; try clear K9
        refine CW.region ?_
        refine r_move rfl ?_
        refine r_add rfl rfl rfl (wr_i64 (by omega) (by omega)) ?_
        refine r_assign rfl ?_
        refine LW.nil ?_
        refine thenE_norm ⟨rfl, ?_⟩
        refine ⟨raws.length - (i + 1), by omega, i + 1, v7_9, g7_9, rfl, by omega, rfl, ?_⟩
        rw [htk, List.filter_append, List.filter_cons, if_pos (decide_eq_true (show d < r1 by omega)), List.filter_nil]
        exact SH.sel H [0, 1, 2] (by decide) rfl
      · try simp only [decide_eq_true_eq, decide_eq_false_iff_not, Bool.and_eq_true, Bool.or_eq_true, Bool.and_eq_false_iff, Bool.or_eq_false_iff, Bool.not_eq_true', Bool.not_eq_false', beq_iff_eq, bne_iff_ne, ne_eq, Decidable.not_not] at hc3
        refine CW.skip ?_
        refine blockE_norm ?_
        refine thenE_norm (h9 _ _ ?_); clear h9; try clear K9
        refine CW.region ?_
        refine r_move rfl ?_
        refine r_add rfl rfl rfl (wr_i64 (by omega) (by omega)) ?_
        refine r_assign rfl ?_
        refine LW.nil ?_
        refine thenE_norm ⟨rfl, ?_⟩
        refine ⟨raws.length - (i + 1), by omega, i + 1, u, gu, rfl, by omega, rfl, ?_⟩
        rw [htk, List.filter_append, List.filter_cons, if_neg (by rw [decide_eq_false (show ¬ d < r1 by omega)]; decide), List.filter_nil, List.append_nil]
        exact SH.sel H [0, 1, 2] (by decide) rfl
    · try simp only [decide_eq_true_eq, decide_eq_false_iff_not, Bool.and_eq_true, Bool.or_eq_true, Bool.and_eq_false_iff, Bool.or_eq_false_iff, Bool.not_eq_true', Bool.not_eq_false', beq_iff_eq, bne_iff_ne, ne_eq, Decidable.not_not] at hc2
      refine CW.exit (thenE_exit (thenE_exit (blockE_hit ?_)))
      refine thenE_norm (h5 _ _ ?_); clear h5; try clear K5
      refine CW.region ?_
      refine r_move rfl ?_
      refine r_move rfl ?_
      refine r_nilCheck rfl rfl ?_
      refine r_fieldAddrO rfl Try.underlying71 rfl Try.sizeOf69 (by decide) (show _ = 2 from rfl) rfl ?_
      refine s_store H Try.sizeOf69 rfl (by simp only [upd_get, ev, Nat.reduceEqDiff, ↓reduceIte] <;> rfl) (by first | rfl | assumption | exact Rs.oneC (by first | assumption | exact SH.rsR H (by (repeat first | exact At.here | apply At.there); done) | exact SH.rsO H (by (repeat first | exact At.here | apply At.there); done) | exact (Rs.nil : Rs Non _ _ _)) | (simp only [List.all_cons, List.all_nil, Bool.and_true, Bool.and_eq_true, Row.cells, Cm.L, Rq.L, Tp.L, Bat.L, Ty.L, Sd.L]; (repeat' constructor) <;> first | rfl | assumption | exact Rs.oneC (by first | assumption | exact SH.rsR H (by (repeat first | exact At.here | apply At.there); done) | exact SH.rsO H (by (repeat first | exact At.here | apply At.there); done) | exact (Rs.nil : Rs Non _ _ _)))) (by (repeat first | exact At.here | apply At.there); done) (by first | (simp; done) | decide | omega) ?_
      clear H
      intro w8_4 H
      try dsimp only [replC, List.cons_append, List.nil_append, List.append_nil, agg, cellsL, Value.cells, List.toList_toArray, List.set_cons_zero, List.set_cons_succ, spliceL, List.take_succ_cons, List.take_zero, List.drop_succ_cons, List.drop_zero, List.length_cons, List.length_nil, Nat.reduceAdd, Row.cells, Cm.L, Rq.L, Tp.L, Bat.L, Ty.L, Sd.L] at H
      refine LW.nil ?_
      refine end0 Try.results35 ?_
      obtain rfl : i = raws.length := by omega
      rw [List.take_length] at H
      rw [if_neg (show ¬ (d ≤ dn ∨ 2305843009213693952 < d) by omega), if_neg (show ¬ (d ≤ dn ∨ 2305843009213693952 < d) by omega)]
      obtain ⟨FN', K⟩ := RLnA.mk (SH.sel H [0, 2] (by decide) (by rfl))
      exact ⟨_, rfl, K⟩
set_option maxHeartbeats 8000000 in
theorem RChosen_c {FI FR : Nat → Prop} {b : Nat} {s : LnS} {raws : List Sd} (sl : Int) (w : World) (hok : OkL s) (hR : RLnA b s.n s.done raws FR w) (hm : SdA FI s.n raws s.heard w) :
    Calls Try.prog 37 #[.pointer (some ⟨b, 0, none⟩), .int .i64 sl] w fun e w' => ∃ v', e = .returned (.tuple #[agg (⟨(outT s.n (lookM s.heard sl)).fill, (outT s.n (lookM s.heard sl)).view, (outT s.n (lookM s.heard sl)).tip, (outT s.n (lookM s.heard sl)).time, v'⟩ : Bat), .bool (chosenT s.n (lookM s.heard sl))]) ∧
      Rs FI w v' (outT s.n (lookM s.heard sl)).rs ∧ Ext0 w w' := by
  obtain ⟨v, g, hA⟩ := hR
  have H := SH.look hA
  simp only [List.map_cons, List.map_nil, toImm] at H
  obtain ⟨s1, s2, s3⟩ := s
  dsimp only at H hm ⊢
  have hnd : (s3.map (·.1)).Nodup := hok.nd
  refine calls_of_CW Try.func37 rfl Try.ntmps37 (Nat.le_of_ble_eq_true rfl) ?_
  simp only [argE, argFrom, Nat.reduceAdd]
  refine CW.seq (fun K1 h1 => ?_)
  refine CW.region ?_
  refine s_alloc (cs := [.bool false, .int .i64 0, .int .i64 0, .int .i64 0, .int .i64 0, .slice none 0 0]) H rfl Try.zeroValue27 rfl ?_
  clear H
  intro b0_0 w0_0 H
  try dsimp only [replC, List.cons_append, List.nil_append, List.append_nil, agg, cellsL, Value.cells, List.toList_toArray, List.set_cons_zero, List.set_cons_succ, spliceL, List.take_succ_cons, List.take_zero, List.drop_succ_cons, List.drop_zero, List.length_cons, List.length_nil, Nat.reduceAdd, Row.cells, Cm.L, Rq.L, Tp.L, Bat.L, Ty.L, Sd.L] at H
  refine r_assign rfl ?_
  refine LW.nil ?_
  refine thenE_norm (h1 _ _ ?_); clear h1; try clear K1
  refine CW.seq (fun K2 h2 => ?_)
  refine CW.region ?_
  refine r_move rfl ?_
  refine r_move rfl ?_
  refine r_call rfl Try.call80 (by simp only [List.map_cons, List.map_nil, List.map_toArray, List.toList_toArray, upd_get, ev, Nat.reduceEqDiff, ↓reduceIte] <;> rfl) (at_c _ _ (SH.propI H (i := 0) rfl) (SH.rsR H (i := 1) rfl)) ?_
  rintro _ _ ⟨z, rfl, rfl, hz⟩
  refine ⟨_, rfl, ?_⟩
  refine r_assign rfl ?_
  refine LW.nil ?_
  refine thenE_norm (h2 _ _ ?_); clear h2; try clear K2
  refine CW.seq (fun K3 h3 => ?_)
  refine CW.seq (fun K4 h4 => ?_)
  rcases hz with ⟨rfl, hz⟩ | ⟨q, r, rfl, hr, hrs⟩
  · have hlm : lookM s3 sl = none := look_no fun p hp => by
      obtain ⟨j, hj⟩ := List.mem_iff_getElem?.1 hp
      obtain ⟨y, hy, hyr⟩ := All2.get' hm hj
      have := hz y (List.mem_of_getElem? hy)
      rw [hyr.sl] at this
      exact this
    have hch : chosenT s1 (lookM s3 sl) = false := by rw [hlm]; rfl
    have hout : outT s1 (lookM s3 sl) = zeroTm := by rw [outT, hch]; rfl
    refine CW.region ?_
    refine r_move rfl ?_
    refine r_lss rfl rfl rfl ?_
    refine r_move rfl ?_
    refine LW.known (t := 12) (c := true) rfl (by first | rfl | (simp only [decide_eq_true_eq, decide_eq_false_iff_not, Bool.and_eq_true, Bool.or_eq_true, Bool.and_eq_false_iff, Bool.or_eq_false_iff, Bool.not_eq_true', Bool.not_eq_false', beq_iff_eq, bne_iff_ne]; omega) | simp_all) (fun hg2_3 => ?_)
    refine LW.skip rfl (fun _ e => by cases e; decide) rfl hg2_3 ?_
    refine LW.skip rfl (fun _ e => by cases e; decide) rfl hg2_3 ?_
    refine LW.skip rfl (fun _ e => by cases e; decide) rfl hg2_3 ?_
    refine LW.skip rfl (fun _ e => by cases e; decide) rfl hg2_3 ?_
    refine LW.skip rfl (fun _ e => by cases e; decide) rfl hg2_3 ?_
    refine LW.skip rfl (fun _ e => by cases e; decide) rfl hg2_3 ?_
    refine LW.skip rfl (fun _ e => by cases e; decide) rfl hg2_3 ?_
    refine LW.skip rfl (fun _ e => by cases e; decide) rfl hg2_3 ?_
    refine LW.skip rfl (fun _ e => by cases e; decide) rfl hg2_3 ?_
    refine r_pickT rfl rfl hg2_3 ?_
    refine LW.nil ?_
    refine thenE_norm ?_
    refine cut (K := K4) [0, 4, 6, 22] (fun σ => ?_)
    simp only [setL, keepE, upd_get, ev, Nat.reduceEqDiff, ↓reduceIte]
    refine h4 _ _ ?_; clear h4; try clear K4
    refine CW.condT rfl (by first | rfl | (simp only [decide_eq_true_eq, decide_eq_false_iff_not, Bool.and_eq_true, Bool.or_eq_true, Bool.and_eq_false_iff, Bool.or_eq_false_iff, Bool.not_eq_true', Bool.not_eq_false', beq_iff_eq, bne_iff_ne]; omega) | simp_all) ?_
    refine CW.seq (fun K5 h5 => ?_)
    refine CW.region ?_
    refine r_buildQ rfl Try.underlying27 Try.zeroValue27 rfl (pl := [(0, 1), (1, 1), (2, 2), (4, 1), (5, 1)]) (by intro w; simp [go_sem]) (qs := []) (cs := [.bool false, .int .i64 0, .int .i64 0, .int .i64 0, .int .i64 0, .slice none 0 0]) trivial rfl ?_
    refine s_storeA H Try.sizeOf27 rfl (by simp only [upd_get, ev, Nat.reduceEqDiff, ↓reduceIte] <;> rfl) (by simp only [cellsL, agg, List.toList_toArray, Row.cells, Cm.L, Rq.L, Tp.L, Bat.L, Ty.L, Sd.L] <;> rfl) (by rfl) (by first | rfl | assumption | exact Rs.oneC (by first | assumption | exact SH.rsR H (by (repeat first | exact At.here | apply At.there); done) | exact SH.rsO H (by (repeat first | exact At.here | apply At.there); done) | exact (Rs.nil : Rs Non _ _ _)) | (simp only [List.all_cons, List.all_nil, Bool.and_true, Bool.and_eq_true, Row.cells, Cm.L, Rq.L, Tp.L, Bat.L, Ty.L, Sd.L]; (repeat' constructor) <;> first | rfl | assumption | exact Rs.oneC (by first | assumption | exact SH.rsR H (by (repeat first | exact At.here | apply At.there); done) | exact SH.rsO H (by (repeat first | exact At.here | apply At.there); done) | exact (Rs.nil : Rs Non _ _ _)))) (by (repeat first | exact At.here | apply At.there); done) (by first | (simp; done) | decide | (show _ ≤ _; decide)) ?_
    clear H
    intro w3_1 H
    try dsimp only [replC, List.cons_append, List.nil_append, List.append_nil, agg, cellsL, Value.cells, List.toList_toArray, List.set_cons_zero, List.set_cons_succ, spliceL, List.take_succ_cons, List.take_zero, List.drop_succ_cons, List.drop_zero, List.length_cons, List.length_nil, Nat.reduceAdd, Row.cells, Cm.L, Rq.L, Tp.L, Bat.L, Ty.L, Sd.L] at H
    refine r_assign rfl ?_
    refine LW.nil ?_
    refine thenE_norm (h5 _ _ ?_); clear h5; try clear K5
    refine CW.ret (thenE_ret (retC2 Try.results37 (by simp only [upd_get, ev, Nat.reduceEqDiff, ↓reduceIte] <;> rfl) (by simp only [upd_get, ev, Nat.reduceEqDiff, ↓reduceIte] <;> rfl) Try.isAgg27 Try.sizeOf27 (by exact SH.cells H (by (repeat first | exact At.here | apply At.there); done)) (by rfl) ?_))
    rw [hout, hch]
    exact ⟨.slice none 0 0, rfl, Rs.nil, H.ext⟩
  · obtain ⟨⟨pk, t⟩, hp, hpr⟩ := All2.get hm hr
    obtain ⟨r1, r2, r3, ⟨r4, r5, ⟨r6, r7⟩, r8, r9⟩, r10⟩ := r
    obtain ⟨e1, e2, e3, e4, e5, e6, e7, e8, e9⟩ := hpr
    dsimp only at e1 e2 e3 e4 e5 e6 e7 e8 e9 hrs
    rw [← e1, hrs] at hp
    have hlm := (look_idx hnd hp).1
    have hro9 : oneC r9 = true := Rs.oneC e8
    have hro3 : oneC r3 = true := Rs.oneC e9
    have hql := lt_of_get hr
    refine CW.region ?_
    refine r_move rfl ?_
    refine r_lss rfl rfl rfl ?_
    refine r_move rfl ?_
    refine LW.known (t := 12) (c := false) rfl (by simp) (fun hg2_3 => ?_)
    refine LW.want rfl rfl hg2_3 ?_
    refine r_move rfl ?_
    refine LW.want rfl rfl hg2_3 ?_
    refine r_nilCheck rfl rfl ?_
    refine LW.want rfl rfl hg2_3 ?_
    refine r_fieldAddrO rfl Try.underlying71 rfl Try.sizeOf69 (by decide) (show _ = 2 from rfl) rfl ?_
    refine LW.want rfl rfl hg2_3 ?_
    refine r_load rfl Try.isAgg69 rfl (by first | exact SH.cellB H (by (repeat first | exact At.here | apply At.there); done) (by rfl) | exact SH.cellI H (by (repeat first | exact At.here | apply At.there); done) (by rfl) | assumption) ?_
    refine LW.want rfl rfl hg2_3 ?_
    refine r_move rfl ?_
    refine LW.want rfl rfl hg2_3 ?_
    refine r_indexAddrV rfl Try.underlying69 (by simp only [upd_get, ev, Nat.reduceEqDiff, ↓reduceIte] <;> rfl) rfl (by first | assumption | exact SH.rsR H (by (repeat first | exact At.here | apply At.there); done) | exact SH.rsO H (by (repeat first | exact At.here | apply At.there); done) | exact (Rs.nil : Rs Non _ _ _)) (by exact Try.sizeOf125) (by omega) (by omega) ?_
    refine LW.want rfl rfl hg2_3 ?_
    refine r_fieldAddrO rfl Try.underlying125 rfl Try.sizeOf4 (by decide) (show _ + 9 = _ from rfl) rfl ?_
    refine LW.want rfl rfl hg2_3 ?_
    refine r_load rfl Try.isAgg4 rfl (by first | exact Rs.cell (o := 9) (by first | assumption | exact SH.rsR H (by (repeat first | exact At.here | apply At.there); done) | exact SH.rsO H (by (repeat first | exact At.here | apply At.there); done) | exact (Rs.nil : Rs Non _ _ _)) (by assumption) (by rfl) | exact Rs.cell0 (by first | assumption | exact SH.rsR H (by (repeat first | exact At.here | apply At.there); done) | exact SH.rsO H (by (repeat first | exact At.here | apply At.there); done) | exact (Rs.nil : Rs Non _ _ _)) (by assumption) (by rfl) | assumption) ?_
    refine LW.want rfl rfl hg2_3 ?_
    refine r_not rfl rfl ?_
    refine r_pickF rfl rfl hg2_3 ?_
    refine LW.nil ?_
    refine thenE_norm ?_
    refine cut (K := K4) [0, 4, 6, 22] (fun σ => ?_)
    simp only [setL, keepE, upd_get, ev, Nat.reduceEqDiff, ↓reduceIte]
    refine h4 _ _ ?_; clear h4; try clear K4
    refine CW.cond rfl (fun hc1 => ?_) (fun hc1 => ?_)
    · try simp only [decide_eq_true_eq, decide_eq_false_iff_not, Bool.and_eq_true, Bool.or_eq_true, Bool.and_eq_false_iff, Bool.or_eq_false_iff, Bool.not_eq_true', Bool.not_eq_false', beq_iff_eq, bne_iff_ne, ne_eq, Decidable.not_not] at hc1
      refine CW.seq (fun K6 h6 => ?_)
      refine CW.region ?_
      refine r_buildQ rfl Try.underlying27 Try.zeroValue27 rfl (pl := [(0, 1), (1, 1), (2, 2), (4, 1), (5, 1)]) (by intro w; simp [go_sem]) (qs := []) (cs := [.bool false, .int .i64 0, .int .i64 0, .int .i64 0, .int .i64 0, .slice none 0 0]) trivial rfl ?_
      refine s_storeA H Try.sizeOf27 rfl (by simp only [upd_get, ev, Nat.reduceEqDiff, ↓reduceIte] <;> rfl) (by simp only [cellsL, agg, List.toList_toArray, Row.cells, Cm.L, Rq.L, Tp.L, Bat.L, Ty.L, Sd.L] <;> rfl) (by rfl) (by first | rfl | assumption | exact Rs.oneC (by first | assumption | exact SH.rsR H (by (repeat first | exact At.here | apply At.there); done) | exact SH.rsO H (by (repeat first | exact At.here | apply At.there); done) | exact (Rs.nil : Rs Non _ _ _)) | (simp only [List.all_cons, List.all_nil, Bool.and_true, Bool.and_eq_true, Row.cells, Cm.L, Rq.L, Tp.L, Bat.L, Ty.L, Sd.L]; (repeat' constructor) <;> first | rfl | assumption | exact Rs.oneC (by first | assumption | exact SH.rsR H (by (repeat first | exact At.here | apply At.there); done) | exact SH.rsO H (by (repeat first | exact At.here | apply At.there); done) | exact (Rs.nil : Rs Non _ _ _)))) (by (repeat first | exact At.here | apply At.there); done) (by first | (simp; done) | decide | (show _ ≤ _; decide)) ?_
      clear H
      intro w3_1 H
      try dsimp only [replC, List.cons_append, List.nil_append, List.append_nil, agg, cellsL, Value.cells, List.toList_toArray, List.set_cons_zero, List.set_cons_succ, spliceL, List.take_succ_cons, List.take_zero, List.drop_succ_cons, List.drop_zero, List.length_cons, List.length_nil, Nat.reduceAdd, Row.cells, Cm.L, Rq.L, Tp.L, Bat.L, Ty.L, Sd.L] at H
      refine r_assign rfl ?_
      refine LW.nil ?_
      refine thenE_norm (h6 _ _ ?_); clear h6; try clear K6
      refine CW.ret (thenE_ret (retC2 Try.results37 (by simp only [upd_get, ev, Nat.reduceEqDiff, ↓reduceIte] <;> rfl) (by simp only [upd_get, ev, Nat.reduceEqDiff, ↓reduceIte] <;> rfl) Try.isAgg27 Try.sizeOf27 (by exact SH.cells H (by (repeat first | exact At.here | apply At.there); done)) (by rfl) ?_))
      have hch : chosenT s1 (lookM s3 sl) = false := by
        rw [hlm]
        exact decide_eq_false (by have h9 := hc1; rw [e3] at h9; simp at h9; omega)
      have hout : outT s1 (lookM s3 sl) = zeroTm := by rw [outT, hch]; rfl
      rw [hout, hch]
      exact ⟨.slice none 0 0, rfl, Rs.nil, H.ext⟩
    · try simp only [decide_eq_true_eq, decide_eq_false_iff_not, Bool.and_eq_true, Bool.or_eq_true, Bool.and_eq_false_iff, Bool.or_eq_false_iff, Bool.not_eq_true', Bool.not_eq_false', beq_iff_eq, bne_iff_ne, ne_eq, Decidable.not_not] at hc1
      refine CW.skip ?_
      refine thenE_norm (h3 _ _ ?_); clear h3; try clear K3
      refine CW.seq (fun K7 h7 => ?_)
      refine CW.region ?_
      refine r_move rfl ?_
      refine r_nilCheck rfl rfl ?_
      refine r_fieldAddrO rfl Try.underlying71 rfl Try.sizeOf69 (by decide) (show _ = 2 from rfl) rfl ?_
      refine r_load rfl Try.isAgg69 rfl (by first | exact SH.cellB H (by (repeat first | exact At.here | apply At.there); done) (by rfl) | exact SH.cellI H (by (repeat first | exact At.here | apply At.there); done) (by rfl) | assumption) ?_
      refine r_move rfl ?_
      refine r_indexAddrV rfl Try.underlying69 (by simp only [upd_get, ev, Nat.reduceEqDiff, ↓reduceIte] <;> rfl) rfl (by first | assumption | exact SH.rsR H (by (repeat first | exact At.here | apply At.there); done) | exact SH.rsO H (by (repeat first | exact At.here | apply At.there); done) | exact (Rs.nil : Rs Non _ _ _)) (by exact Try.sizeOf125) (by omega) (by omega) ?_
      refine r_fieldAddrO rfl Try.underlying125 rfl Try.sizeOf27 (by decide) (show _ + 3 = _ from rfl) rfl ?_
      refine r_loadA rfl Try.isAgg27 Try.sizeOf27 rfl (by first | exact Rs.partOf (n := 6) (by first | assumption | exact SH.rsR H (by (repeat first | exact At.here | apply At.there); done) | exact SH.rsO H (by (repeat first | exact At.here | apply At.there); done) | exact (Rs.nil : Rs Non _ _ _)) (by assumption) (by simp only [Row.cells, List.drop_succ_cons, List.drop_zero, List.take_succ_cons, List.take_zero, Cm.L, Rq.L, Tp.L, Bat.L, Ty.L, Sd.L] <;> rfl) | exact Rs.cells0 (by first | assumption | exact SH.rsR H (by (repeat first | exact At.here | apply At.there); done) | exact SH.rsO H (by (repeat first | exact At.here | apply At.there); done) | exact (Rs.nil : Rs Non _ _ _)) (by assumption)) (by rfl) ?_
      refine s_storeA H Try.sizeOf27 rfl (by simp only [upd_get, ev, Nat.reduceEqDiff, ↓reduceIte] <;> rfl) (by simp only [cellsL, agg, List.toList_toArray, Row.cells, Cm.L, Rq.L, Tp.L, Bat.L, Ty.L, Sd.L] <;> rfl) (by rfl) (by first | rfl | assumption | exact Rs.oneC (by first | assumption | exact SH.rsR H (by (repeat first | exact At.here | apply At.there); done) | exact SH.rsO H (by (repeat first | exact At.here | apply At.there); done) | exact (Rs.nil : Rs Non _ _ _)) | (simp only [List.all_cons, List.all_nil, Bool.and_true, Bool.and_eq_true, Row.cells, Cm.L, Rq.L, Tp.L, Bat.L, Ty.L, Sd.L]; (repeat' constructor) <;> first | rfl | assumption | exact Rs.oneC (by first | assumption | exact SH.rsR H (by (repeat first | exact At.here | apply At.there); done) | exact SH.rsO H (by (repeat first | exact At.here | apply At.there); done) | exact (Rs.nil : Rs Non _ _ _)))) (by (repeat first | exact At.here | apply At.there); done) (by first | (simp; done) | decide | (show _ ≤ _; decide)) ?_
      clear H
      intro w4_8 H
      try dsimp only [replC, List.cons_append, List.nil_append, List.append_nil, agg, cellsL, Value.cells, List.toList_toArray, List.set_cons_zero, List.set_cons_succ, spliceL, List.take_succ_cons, List.take_zero, List.drop_succ_cons, List.drop_zero, List.length_cons, List.length_nil, Nat.reduceAdd, Row.cells, Cm.L, Rq.L, Tp.L, Bat.L, Ty.L, Sd.L] at H
      refine r_assign rfl ?_
      refine LW.nil ?_
      refine thenE_norm ?_
      refine cut (K := K7) [4, 5] (fun σ => ?_)
      simp only [setL, keepE, upd_get, ev, Nat.reduceEqDiff, ↓reduceIte]
      refine h7 _ _ ?_; clear h7; try clear K7
      refine CW.ret (retC2 Try.results37 (by simp only [upd_get, ev, Nat.reduceEqDiff, ↓reduceIte] <;> rfl) (by simp only [upd_get, ev, Nat.reduceEqDiff, ↓reduceIte] <;> rfl) Try.isAgg27 Try.sizeOf27 (by exact SH.cells H (by (repeat first | exact At.here | apply At.there); done)) (by rfl) ?_)
      have hch : chosenT s1 (lookM s3 sl) = true := by
        rw [hlm]
        exact decide_eq_true (by have h9 := hc1; rw [e3] at h9; simp at h9; omega)
      have hout : outT s1 (lookM s3 sl) = t := by rw [outT, hch, if_pos rfl, hlm]; rfl
      rw [hout, hch, ← e4, ← e5, ← e6, ← e7]
      exact ⟨r9, rfl, e8, H.ext⟩
set_option maxHeartbeats 8000000 in
theorem RHeard_c {FI FR : Nat → Prop} {b : Nat} {s : LnS} {raws : List Sd} (sl : Int) (w : World) (hok : OkL s) (hR : RLnA b s.n s.done raws FR w) (hm : SdA FI s.n raws s.heard w) :
    Calls Try.prog 38 #[.pointer (some ⟨b, 0, none⟩), .int .i64 sl] w fun e w' => ∃ (v' : Value) (g : Option Nat), e = .returned (.tuple #[.int .i64 ((lookM s.heard sl).getD zeroTm).ballot, v']) ∧
      SH Non Non w w' [.O 3 v' ((lookM s.heard sl).getD zeroTm).frm g] := by
  obtain ⟨v, g, hA⟩ := hR
  have H := SH.look hA
  simp only [List.map_cons, List.map_nil, toImm] at H
  obtain ⟨s1, s2, s3⟩ := s
  dsimp only at H hm ⊢
  have hnd : (s3.map (·.1)).Nodup := hok.nd
  refine calls_of_CW Try.func38 rfl Try.ntmps38 (Nat.le_of_ble_eq_true rfl) ?_
  simp only [argE, argFrom, Nat.reduceAdd]
  refine CW.seq (fun K1 h1 => ?_)
  refine CW.region ?_
  refine r_assign rfl ?_
  refine r_assign rfl ?_
  refine LW.nil ?_
  refine thenE_norm (h1 _ _ ?_); clear h1; try clear K1
  refine CW.seq (fun K2 h2 => ?_)
  refine CW.region ?_
  refine r_move rfl ?_
  refine r_move rfl ?_
  refine r_call rfl Try.call80 (by simp only [List.map_cons, List.map_nil, List.map_toArray, List.toList_toArray, upd_get, ev, Nat.reduceEqDiff, ↓reduceIte] <;> rfl) (at_c _ _ (SH.propI H (i := 0) rfl) (SH.rsR H (i := 1) rfl)) ?_
  rintro _ _ ⟨z, rfl, rfl, hz⟩
  refine ⟨_, rfl, ?_⟩
  refine r_assign rfl ?_
  refine LW.nil ?_
  refine thenE_norm (h2 _ _ ?_); clear h2; try clear K2
  refine CW.seq (fun K3 h3 => ?_)
  refine CW.seq (fun K4 h4 => ?_)
  rcases hz with ⟨rfl, hz⟩ | ⟨q, r, rfl, hr, hrs⟩
  · have hlm : lookM s3 sl = none := look_no fun p hp => by
      obtain ⟨j, hj⟩ := List.mem_iff_getElem?.1 hp
      obtain ⟨y, hy, hyr⟩ := All2.get' hm hj
      have := hz y (List.mem_of_getElem? hy)
      rw [hyr.sl] at this
      exact this
    refine CW.region ?_
    refine r_move rfl ?_
    refine r_lss rfl rfl rfl ?_
    refine LW.nil ?_
    refine thenE_norm ?_
    refine cut (K := K4) [0, 6, 11] (fun σ => ?_)
    simp only [setL, keepE, upd_get, ev, Nat.reduceEqDiff, ↓reduceIte]
    refine h4 _ _ ?_; clear h4; try clear K4
    refine CW.condT rfl (by first | rfl | (simp only [decide_eq_true_eq, decide_eq_false_iff_not, Bool.and_eq_true, Bool.or_eq_true, Bool.and_eq_false_iff, Bool.or_eq_false_iff, Bool.not_eq_true', Bool.not_eq_false', beq_iff_eq, bne_iff_ne]; omega) | simp_all) ?_
    refine CW.seq (fun K5 h5 => ?_)
    refine CW.region ?_
    refine r_assign rfl ?_
    refine r_assign rfl ?_
    refine LW.nil ?_
    refine thenE_norm (h5 _ _ ?_); clear h5; try clear K5
    refine CW.ret (thenE_ret (ret2 Try.results38 (by simp only [upd_get, ev, Nat.reduceEqDiff, ↓reduceIte]; rfl) (by simp only [upd_get, ev, Nat.reduceEqDiff, ↓reduceIte]; rfl) ?_))
    rw [hlm]
    exact ⟨.slice none 0 0, none, rfl, SH.give (H.addO (α := Int) 3) (by repeat first | exact List.Sublist.refl _ | exact List.nil_sublist _ | apply List.Sublist.cons_cons | apply List.Sublist.cons) ⟨trivial, trivial⟩⟩
  · obtain ⟨⟨pk, t⟩, hp, hpr⟩ := All2.get hm hr
    obtain ⟨e1, e2, e3, e4, e5, e6, e7, e8, e9⟩ := hpr
    dsimp only at e1 e2 e3 e4 e5 e6 e7 e8 e9
    rw [← e1, hrs] at hp
    have hlm := (look_idx hnd hp).1
    have hql := lt_of_get hr
    have hf7 := (hok.all _ (List.mem_of_getElem? hp)).2.len (by have := hok.n0; dsimp only at this ⊢; omega) hok.n1
    dsimp only at hf7
    refine CW.region ?_
    refine r_move rfl ?_
    refine r_lss rfl rfl rfl ?_
    refine LW.nil ?_
    refine thenE_norm ?_
    refine cut (K := K4) [0, 6, 11] (fun σ => ?_)
    simp only [setL, keepE, upd_get, ev, Nat.reduceEqDiff, ↓reduceIte]
    refine h4 _ _ ?_; clear h4; try clear K4
    refine CW.condF rfl (by simp) ?_
    refine CW.skip ?_
    refine thenE_norm (h3 _ _ ?_); clear h3; try clear K3
    refine CW.seq (fun K6 h6 => ?_)
    refine CW.drawH [] H (List.Sublist.refl _) (by kernel_rfl) rfl ?_
    clear H
    intro w4d H
    refine DL.take (i := 0) [] rfl (by kernel_rfl) (by kernel_rfl) (by kernel_rfl) (by kernel_rfl) rfl rfl (fun u H => x_move ) H ?_
    refine DL.take (i := 1) [] rfl (by kernel_rfl) (by kernel_rfl) (by kernel_rfl) (by kernel_rfl) rfl rfl (fun u H => x_nilCheck rfl) H ?_
    refine DL.take (i := 2) [] rfl (by kernel_rfl) (by kernel_rfl) (by kernel_rfl) (by kernel_rfl) rfl rfl (fun u H => x_fieldAddrO Try.underlying71 rfl Try.sizeOf69 (by decide) (show _ = 2 from rfl) rfl) H ?_
    refine DL.take (i := 3) [] rfl (by kernel_rfl) (by kernel_rfl) (by kernel_rfl) (by kernel_rfl) rfl rfl (fun u H => x_load Try.isAgg69 rfl (by first | exact SH.cellB H (by (repeat first | exact At.here | apply At.there); done) (by rfl) | exact SH.cellI H (by (repeat first | exact At.here | apply At.there); done) (by rfl) | assumption)) H ?_
    refine DL.take (i := 4) [] rfl (by kernel_rfl) (by kernel_rfl) (by kernel_rfl) (by kernel_rfl) rfl rfl (fun u H => x_move ) H ?_
    refine DL.take (i := 5) [] rfl (by kernel_rfl) (by kernel_rfl) (by kernel_rfl) (by kernel_rfl) rfl rfl (fun u H => x_indexAddrV Try.underlying69 (by simp only [upd_get, ev, Nat.reduceEqDiff, ↓reduceIte] <;> rfl) rfl (by first | assumption | exact SH.rsR H (by (repeat first | exact At.here | apply At.there); done) | exact SH.rsO H (by (repeat first | exact At.here | apply At.there); done) | exact (Rs.nil : Rs Non _ _ _)) (by exact Try.sizeOf125) (by omega) (by omega)) H ?_
    refine DL.take (i := 6) [] rfl (by kernel_rfl) (by kernel_rfl) (by kernel_rfl) (by kernel_rfl) rfl rfl (fun u H => x_fieldAddrO Try.underlying125 rfl Try.sizeOf3 (by decide) (show _ + 1 = _ from rfl) rfl) H ?_
    refine DL.take (i := 7) [] rfl (by kernel_rfl) (by kernel_rfl) (by kernel_rfl) (by kernel_rfl) rfl rfl (fun u H => x_load Try.isAgg3 rfl (by first | exact Rs.cell (o := 1) (by first | assumption | exact SH.rsR H (by (repeat first | exact At.here | apply At.there); done) | exact SH.rsO H (by (repeat first | exact At.here | apply At.there); done) | exact (Rs.nil : Rs Non _ _ _)) (by assumption) (by rfl) | exact Rs.cell0 (by first | assumption | exact SH.rsR H (by (repeat first | exact At.here | apply At.there); done) | exact SH.rsO H (by (repeat first | exact At.here | apply At.there); done) | exact (Rs.nil : Rs Non _ _ _)) (by assumption) (by rfl) | assumption)) H ?_
    refine DL.take (i := 9) [] rfl (by kernel_rfl) (by kernel_rfl) (by kernel_rfl) (by kernel_rfl) rfl rfl (fun u H => x_move ) H ?_
    refine DL.take (i := 10) [] rfl (by kernel_rfl) (by kernel_rfl) (by kernel_rfl) (by kernel_rfl) rfl rfl (fun u H => x_nilCheck rfl) H ?_
    refine DL.take (i := 11) [] rfl (by kernel_rfl) (by kernel_rfl) (by kernel_rfl) (by kernel_rfl) rfl rfl (fun u H => x_fieldAddrO Try.underlying71 rfl Try.sizeOf69 (by decide) (show _ = 2 from rfl) rfl) H ?_
    refine DL.take (i := 12) [] rfl (by kernel_rfl) (by kernel_rfl) (by kernel_rfl) (by kernel_rfl) rfl rfl (fun u H => x_load Try.isAgg69 rfl (by first | exact SH.cellB H (by (repeat first | exact At.here | apply At.there); done) (by rfl) | exact SH.cellI H (by (repeat first | exact At.here | apply At.there); done) (by rfl) | assumption)) H ?_
    refine DL.take (i := 13) [] rfl (by kernel_rfl) (by kernel_rfl) (by kernel_rfl) (by kernel_rfl) rfl rfl (fun u H => x_move ) H ?_
    refine DL.take (i := 14) [] rfl (by kernel_rfl) (by kernel_rfl) (by kernel_rfl) (by kernel_rfl) rfl rfl (fun u H => x_indexAddrV Try.underlying69 (by simp only [upd_get, ev, Nat.reduceEqDiff, ↓reduceIte] <;> rfl) rfl (by first | assumption | exact SH.rsR H (by (repeat first | exact At.here | apply At.there); done) | exact SH.rsO H (by (repeat first | exact At.here | apply At.there); done) | exact (Rs.nil : Rs Non _ _ _)) (by exact Try.sizeOf125) (by omega) (by omega)) H ?_
    refine DL.take (i := 15) [] rfl (by kernel_rfl) (by kernel_rfl) (by kernel_rfl) (by kernel_rfl) rfl rfl (fun u H => x_fieldAddrO Try.underlying125 rfl Try.sizeOf41 (by decide) (show _ + 2 = _ from rfl) rfl) H ?_
    refine DL.take (i := 16) [] rfl (by kernel_rfl) (by kernel_rfl) (by kernel_rfl) (by kernel_rfl) rfl rfl (fun u H => x_load Try.isAgg41 rfl (by first | exact Rs.cell (o := 2) (by first | assumption | exact SH.rsR H (by (repeat first | exact At.here | apply At.there); done) | exact SH.rsO H (by (repeat first | exact At.here | apply At.there); done) | exact (Rs.nil : Rs Non _ _ _)) (by assumption) (by rfl) | exact Rs.cell0 (by first | assumption | exact SH.rsR H (by (repeat first | exact At.here | apply At.there); done) | exact SH.rsO H (by (repeat first | exact At.here | apply At.there); done) | exact (Rs.nil : Rs Non _ _ _)) (by assumption) (by rfl) | assumption)) H ?_
    refine DL.one (i := 8) (by kernel_rfl) rfl rfl ?_
    refine r_buildSlice rfl Try.underlying41 Try.sizeOf3 Try.zeroValue3 rfl rfl rfl (by simp only [List.map_cons, List.map_nil, List.toList_toArray, List.foldl_cons, List.foldl_nil, List.replicate_succ, List.replicate_zero, List.set_cons_zero, List.set_cons_succ, upd_get, ev, Nat.reduceEqDiff, ↓reduceIte] <;> rfl) ?_
    intro b4_8 w4_8 hb4_8 hs4_8 hE4_8 hB4_8
    replace H := SH.call H (SH.fromB hE4_8 hb4_8 hs4_8 hB4_8)
    clear hb4_8 hs4_8 hE4_8 hB4_8
    try dsimp only [replC, List.cons_append, List.nil_append, List.append_nil, agg, cellsL, Value.cells, List.toList_toArray, List.set_cons_zero, List.set_cons_succ, spliceL, List.take_succ_cons, List.take_zero, List.drop_succ_cons, List.drop_zero, List.length_cons, List.length_nil, Nat.reduceAdd, Row.cells, Cm.L, Rq.L, Tp.L, Bat.L, Ty.L, Sd.L] at H
    replace H := SH.row (b := b4_8) (xs := ([] : List Int)) (n := 0) (cap := 0) H (by (repeat first | exact At.here | apply At.there); done) (by rfl) (by intro x hx; first | rfl | (simp at hx; done) | (simp only [List.mem_cons, List.not_mem_nil, or_false] at hx; rcases hx with rfl <;> first | rfl | exact (by first | rfl | assumption | exact Rs.oneC (by first | assumption | exact SH.rsR H (by (repeat first | exact At.here | apply At.there); done) | exact SH.rsO H (by (repeat first | exact At.here | apply At.there); done) | exact (Rs.nil : Rs Non _ _ _)) | (simp only [List.all_cons, List.all_nil, Bool.and_true, Bool.and_eq_true, Row.cells, Cm.L, Rq.L, Tp.L, Bat.L, Ty.L, Sd.L]; (repeat' constructor) <;> first | rfl | assumption | exact Rs.oneC (by first | assumption | exact SH.rsR H (by (repeat first | exact At.here | apply At.there); done) | exact SH.rsO H (by (repeat first | exact At.here | apply At.there); done) | exact (Rs.nil : Rs Non _ _ _)))))) (by rfl) rfl (by decide)
    try dsimp only [replC, List.cons_append, List.nil_append, List.append_nil, agg, cellsL, Value.cells, List.toList_toArray, List.set_cons_zero, List.set_cons_succ, spliceL, List.take_succ_cons, List.take_zero, List.drop_succ_cons, List.drop_zero, List.length_cons, List.length_nil, Nat.reduceAdd, Row.cells, Cm.L, Rq.L, Tp.L, Bat.L, Ty.L, Sd.L] at H
    refine LW.nil (thenE_norm ⟨fun _ => (SH.sub H (by repeat first | exact List.Sublist.refl _ | exact List.nil_sublist _ | apply List.Sublist.cons_cons | apply List.Sublist.cons)), ?_⟩)
    refine DL.one (i := 17) (by kernel_rfl) rfl rfl ?_
    first
      | refine s_append H rfl Try.underlying41 Try.underlying41 Try.type3 rfl (by simp only [upd_get, ev, Nat.reduceEqDiff, ↓reduceIte] <;> rfl) (by simp only [upd_get, ev, Nat.reduceEqDiff, ↓reduceIte] <;> rfl) (by (repeat first | exact At.here | apply At.there); done) (e9.up0 (SH.ext H)) (by rfl) (by rfl) (by first | omega | (simp only [Try.t3, List.length_append, List.length_cons, List.length_nil, List.length_map, maxLen]; omega) | (simp [Try.t3, maxLen]; omega)) (by first | omega | (simp only [Try.t3, List.length_append, List.length_cons, List.length_nil, List.length_map, maxLen]; omega) | (simp [Try.t3, maxLen]; omega)) ?_
      | refine s_appendNil H rfl Try.underlying41 Try.underlying41 Try.type3 rfl rfl (by simp only [upd_get, ev, Nat.reduceEqDiff, ↓reduceIte] <;> rfl) (e9.up0 (SH.ext H)) (by rfl) (by rfl) (by first | omega | (simp only [Try.t3, List.length_append, List.length_cons, List.length_nil, List.length_map, maxLen]; omega) | (simp [Try.t3, maxLen]; omega)) ?_
    clear H
    intro v4_17 w4_17 g4_17 H hN4_17
    try dsimp only [replC, List.cons_append, List.nil_append, List.append_nil] at H
    refine LW.nil (thenE_norm ⟨fun _ => (SH.sub H (by repeat first | exact List.Sublist.refl _ | exact List.nil_sublist _ | apply List.Sublist.cons_cons | apply List.Sublist.cons)), ?_⟩)
    refine DL.take (i := 18) [] rfl (by kernel_rfl) (by kernel_rfl) (by kernel_rfl) (by kernel_rfl) rfl rfl (fun u H => x_assign ) (SH.sub H (by repeat first | exact List.Sublist.refl _ | exact List.nil_sublist _ | apply List.Sublist.cons_cons | apply List.Sublist.cons)) ?_
    refine DL.take (i := 19) [] rfl (by kernel_rfl) (by kernel_rfl) (by kernel_rfl) (by kernel_rfl) rfl rfl (fun u H => x_assign ) (SH.sub H (by repeat first | exact List.Sublist.refl _ | exact List.nil_sublist _ | apply List.Sublist.cons_cons | apply List.Sublist.cons)) ?_
    refine DL.done (by kernel_rfl) ?_
    refine thenE_norm ?_
    refine cut (K := K6) [4, 5] (fun σ => ?_)
    simp only [setL, keepE, upd_get, ev, Nat.reduceEqDiff, ↓reduceIte]
    refine h6 _ _ ?_; clear h6; try clear K6
    refine CW.ret (ret2 Try.results38 (by simp only [upd_get, ev, Nat.reduceEqDiff, ↓reduceIte]; rfl) (by simp only [upd_get, ev, Nat.reduceEqDiff, ↓reduceIte]; rfl) ?_)
    rw [hlm, e2]
    exact ⟨v4_17, g4_17, rfl, (SH.give (SH.sel H [2] (by decide) rfl) (List.Sublist.refl _) (by repeat first | exact trivial | refine ⟨trivial, ?_⟩))⟩
end Go.Proofs.Ytalieccfdmokmaa
