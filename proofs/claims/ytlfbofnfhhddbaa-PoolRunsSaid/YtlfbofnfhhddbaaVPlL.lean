/-
  The walks of layer 19's document, the first part: its queue.
-/
import Derived.Test.YtlfbofnfhhddbaaVPlJ
namespace Go.Proofs.Ytlfbofnfhhddbaa
set_option linter.unusedSimpArgs false
set_option linter.unusedVariables false
set_option maxRecDepth 20000
open Go.V Go.RowKit Go.ChangeShapes Go.WideShapes

structure Wt where
  req : Rq
  came : Int
  slot : Int
  view : Int
  told : Bool
deriving DecidableEq
def Wt.L (a : Wt) : List Value := [.int .i64 a.req.client, .int .i64 a.req.seq, .int .i64 a.req.cmd.kind, .int .i64 a.req.cmd.session, .string a.req.cmd.name, .int .i64 a.came, .int .i64 a.slot, .int .i64 a.view, .bool a.told]
instance : Row Wt := ⟨9, Wt.L, ⟨⟨0, 0, ⟨0, 0, ByteArray.mk #[]⟩⟩, 0, 0, 0, false⟩, fun _ => rfl, rfl⟩
def Wt.Good (w : World) (a : Wt) : Prop := Rq.Good w a.req ∧ I64 a.came ∧ I64 a.slot ∧ I64 a.view ∧ True
theorem Wt.opens : Opens Try.prog (α := Wt) 128 Wt.Good := fun H enc w base spare held fuel cs x hl h => by
  obtain ⟨u0, u1, u2, u3, u4, u5, u6, u7, u8, rfl⟩ := list9 hl
  obtain ⟨m0, hf0⟩ := open_fields Try.underlying128 h
  obtain ⟨y0, t0⟩ := hf0 0 _ 5 rfl (by kernel_rfl)
  obtain ⟨a0, e0, o0, g0⟩ := Rq.opens H enc w base spare held _ _ _ rfl t0
  have q0 : [u0, u1, u2, u3, u4] = Row.cells a0 := e0.symm
  simp only [Row.cells, Rq.L, List.cons.injEq, and_true] at q0
  obtain ⟨rfl, rfl, rfl, rfl, rfl⟩ := q0
  obtain ⟨y1, t1⟩ := hf0 1 _ 1 rfl (by kernel_rfl)
  obtain ⟨a1, e1, -, w1⟩ := DataW.trod_int Try.underlying3 t1
  obtain rfl : u5 = _ := by simpa using e1
  obtain ⟨y2, t2⟩ := hf0 2 _ 1 rfl (by kernel_rfl)
  obtain ⟨a2, e2, -, w2⟩ := DataW.trod_int Try.underlying3 t2
  obtain rfl : u6 = _ := by simpa using e2
  obtain ⟨y3, t3⟩ := hf0 3 _ 1 rfl (by kernel_rfl)
  obtain ⟨a3, e3, -, w3⟩ := DataW.trod_int Try.underlying3 t3
  obtain rfl : u7 = _ := by simpa using e3
  obtain ⟨y4, t4⟩ := hf0 4 _ 1 rfl (by kernel_rfl)
  obtain ⟨a4, e4, -⟩ := DataW.trod_bool Try.underlying4 t4
  obtain rfl : u8 = _ := by simpa using e4
  exact ⟨⟨a0, a1, a2, a3, a4⟩, rfl, (by first | rfl | (simp only [Row.cells, Wt.L, Rq.L]; repeat (first | rfl | refine Bool.and_eq_true_iff.2 ⟨(by first | rfl | assumption), ?_⟩))), ⟨g0, i64_wf w1, i64_wf w2, i64_wf w3, trivial⟩⟩
/-- The document's queue. -/
def RPoolA (q : Nat) (ws : List Wt) (FN : Nat → Prop) (w : World) : Prop :=
  ws.length ≤ 6 ∧ ∃ v g, ObjA FN w [.B q 77 [v], .O 128 v ws g]
theorem rpool_st {q : Nat} {ws : List Wt} {FN : Nat → Prop} : Ch.St FN (RPoolA q ws FN) := fun V w w' h e hd => by
  obtain ⟨hl, v, g, h⟩ := h
  exact ⟨hl, v, g, h.up e hd⟩
theorem RPoolA.mkL {U G : Nat → Prop} {w0 w : World} {L : List Ch} {q : Nat} {v : Value} {ws : List Wt} {g : Option Nat} (hl : ws.length ≤ 6)
    (H : SH U G w0 w ([.B q 77 [v], .O 128 v ws g] ++ L)) : ∃ FN, SH U G w0 w (.P FN (RPoolA q ws FN) :: L) :=
  ⟨_, SH.pack (A := RPoolA q ws (foot [.B q 77 [v], .O 128 v ws g])) H ⟨trivial, trivial, trivial⟩ rpool_st (fun h => ⟨hl, v, g, h⟩)⟩
theorem RPoolA.mk {U G : Nat → Prop} {w0 w : World} {q : Nat} {v : Value} {ws : List Wt} {g : Option Nat} (hl : ws.length ≤ 6)
    (H : SH U G w0 w [.B q 77 [v], .O 128 v ws g]) : ∃ FN, SH U Non w0 w [.P FN (RPoolA q ws FN)] :=
  have ⟨FN, K⟩ := RPoolA.mkL (L := []) hl H
  ⟨FN, SH.give (M := [.P _ _]) K (List.Sublist.refl _) ⟨trivial, trivial⟩⟩
theorem MayRqR_c (r : Rq) (w : World) :
    Calls Try.prog 91 #[agg r] w fun e w' => e = .returned (.bool (mayRq r)) ∧ Ext0 w w' := MayReqR_c _ _ _ _ _ w
def twW (r : Rq) (x : Wt) : Bool := decide (x.req.client = r.client) && decide (r.seq ≤ x.req.seq)
def notW (r : Rq) (x : Wt) : Bool := decide (x.req.client ≠ r.client)
/-- The document's queue behind a request that is put in, and the code. -/
def addW (ws : List Wt) (r : Rq) (now : Int) : List Wt × Int :=
  if mayRq r = true then
    if ws.any (twW r) = true then (ws, 7) else if 6 ≤ (ws.filter (notW r)).length then (ws, 5) else (ws.filter (notW r) ++ [⟨r, cutM now, 0, 0, false⟩], 0)
  else (ws, 1)
theorem filter_snoc {α : Type} {p : α → Bool} {xs : List α} {i : Nat} {x : α} (hx : xs[i]? = some x) : (xs.take (i + 1)).filter p = (xs.take i).filter p ++ (if p x = true then [x] else []) := by
  rw [V.take_snoc hx, List.filter_append]
  by_cases h : p x = true <;> simp [h]
set_option maxHeartbeats 4000000 in
theorem RAdd_c {q : Nat} {ws : List Wt} {FN : Nat → Prop} (r : Rq) (now : Int) (w : World) (hN : RPoolA q ws FN w) :
    Calls Try.prog 49 #[.pointer (some ⟨q, 0, none⟩), agg r, .int .i64 now] w fun e w' => ∃ FN', e = .returned (.int .i64 (addW ws r now).2) ∧ SH FN Non w w' [.P FN' (RPoolA q (addW ws r now).1 FN')] := by
  obtain ⟨hl6, v, gp, hA⟩ := hN
  have H := SH.obj (G := Any) hA
  refine calls_of_CW Try.func49 rfl Try.ntmps49 (Nat.le_of_ble_eq_true rfl) ?_
  simp only [argE, argFrom, Nat.reduceAdd]
  refine CW.seq (fun K1 h1 => ?_)
  refine CW.region ?_
  refine s_box H rfl (by simp only [upd_get, ev, Nat.reduceEqDiff, ↓reduceIte] <;> rfl) rfl ?_
  clear H
  intro b0_0 w0_0 H
  try dsimp only [replC, List.cons_append, List.nil_append, List.append_nil, agg, cellsL, Value.cells, List.toList_toArray, List.set_cons_zero, List.set_cons_succ, spliceL, List.take_succ_cons, List.take_zero, List.drop_succ_cons, List.drop_zero, List.length_cons, List.length_nil, Nat.reduceAdd, Row.cells, Gr.L, Rep.L, Mem.L, Cm.L, Rq.L, Ent.L, ActP.L, Wt.L] at H
  refine r_assign rfl ?_
  refine LW.nil ?_
  refine thenE_norm (h1 _ _ ?_); clear h1; try clear K1
  refine CW.seq (fun K2 h2 => ?_)
  refine CW.seq (fun K3 h3 => ?_)
  refine CW.region ?_
  refine r_loadA rfl Try.isAgg29 Try.sizeOf29 rfl (by first | exact SH.cells H (by (repeat first | exact At.here | apply At.there); done)) (by rfl) ?_
  refine r_call rfl Try.call91 (by simp only [List.map_cons, List.map_nil, List.map_toArray, List.toList_toArray, upd_get, ev, Nat.reduceEqDiff, ↓reduceIte] <;> rfl) (MayRqR_c r _) ?_
  rintro _ w1_1 ⟨rfl, X⟩
  refine ⟨_, rfl, ?_⟩
  replace H := SH.same H X
  clear X
  refine r_not rfl rfl ?_
  refine LW.nil ?_
  refine thenE_norm (h3 _ _ ?_); clear h3; try clear K3
  refine CW.cond rfl (fun hc1 => ?_) (fun hc1 => ?_)
  · try simp only [decide_eq_true_eq, decide_eq_false_iff_not, Bool.and_eq_true, Bool.or_eq_true, Bool.and_eq_false_iff, Bool.or_eq_false_iff, Bool.not_eq_true', Bool.not_eq_false', beq_iff_eq, bne_iff_ne, ne_eq, Decidable.not_not] at hc1
    refine CW.seq (fun K4 h4 => ?_)
    refine CW.region ?_
    refine r_assign rfl ?_
    refine LW.nil ?_
    refine thenE_norm (h4 _ _ ?_); clear h4; try clear K4
    refine CW.ret (thenE_ret (ret1 Try.results49 (by simp only [upd_get, ev, Nat.reduceEqDiff, ↓reduceIte]; rfl) ?_))
    rw [addW, if_neg (by simpa using hc1)]
    obtain ⟨FN', K⟩ := RPoolA.mk hl6 (SH.sel H [0, 1] (by decide) (by rfl))
    exact ⟨_, rfl, K⟩
  · try simp only [decide_eq_true_eq, decide_eq_false_iff_not, Bool.and_eq_true, Bool.or_eq_true, Bool.and_eq_false_iff, Bool.or_eq_false_iff, Bool.not_eq_true', Bool.not_eq_false', beq_iff_eq, bne_iff_ne, ne_eq, Decidable.not_not] at hc1
    have hmr : mayRq r = true := by simpa using hc1
    refine CW.skip ?_
    refine thenE_norm (h2 _ _ ?_); clear h2; try clear K2
    refine CW.seq (fun K5 h5 => ?_)
    refine CW.region ?_
    refine r_assign rfl ?_
    refine LW.nil ?_
    refine thenE_norm (h5 _ _ ?_); clear h5; try clear K5
    refine CW.seq (fun K6 h6 => ?_)
    refine CW.seq (fun K7 h7 => ?_)
    refine CW.region ?_
    refine r_assign rfl ?_
    refine LW.nil ?_
    refine thenE_norm (h7 _ _ ?_); clear h7; try clear K7
    refine CW.block ?_
    refine CW.loopR [0, 2, 4] [7, 8] (fun m vs w' => ∃ (i : Nat) (u : Value) (g : Option Nat), vs = [u, .int .i64 i] ∧ i ≤ ws.length ∧ m = ws.length - i ∧ (ws.take i).any (twW r) = false ∧ SH FN Any w w' [.B q 77 [v], .O 128 v ws gp, .B b0_0 29 [.int .i64 r.client, .int .i64 r.seq, .int .i64 r.cmd.kind, .int .i64 r.cmd.session, .string r.cmd.name], .O 128 u ((ws.take i).filter (notW r)) g]) (ws.length) ?_ ?_
    · exact ⟨0, .slice none 0 0, none, rfl, by omega, by omega, rfl, H.addO (α := Wt) 128⟩
    try clear H
    rintro n1 vs1 wL1 σ ⟨i, u, g, rfl, hi, rfl, hno, H⟩
    simp only [setL, keepE, upd_get, ev, Nat.reduceEqDiff, ↓reduceIte]
    refine CW.seq (fun K8 h8 => ?_)
    refine CW.seq (fun K9 h9 => ?_)
    refine CW.region ?_
    refine r_move rfl ?_
    refine r_move rfl ?_
    refine r_nilCheck rfl rfl ?_
    refine r_fieldAddrO rfl Try.underlying77 rfl Try.sizeOf75 (by decide) (show _ = 0 from rfl) rfl ?_
    refine r_load rfl Try.isAgg75 rfl (by first | exact SH.cellB H (by (repeat first | exact At.here | apply At.there); done) (by rfl) | exact SH.cellI H (by (repeat first | exact At.here | apply At.there); done) (by rfl) | assumption) ?_
    first
      | refine r_lenV rfl Try.underlying75 (by simp only [upd_get, ev, Nat.reduceEqDiff, ↓reduceIte] <;> rfl) (by first | assumption | exact SH.rsR H (by (repeat first | exact At.here | apply At.there); done) | exact SH.rsO H (by (repeat first | exact At.here | apply At.there); done) | exact (Rs.nil : Rs Non _ _ _)) ?_
      | refine r_len rfl Try.underlying75 rfl ?_
    refine r_lss rfl rfl rfl ?_
    refine LW.nil ?_
    refine thenE_norm (h9 _ _ ?_); clear h9; try clear K9
    refine CW.cond rfl (fun hc2 => ?_) (fun hc2 => ?_)
    · try simp only [decide_eq_true_eq, decide_eq_false_iff_not, Bool.and_eq_true, Bool.or_eq_true, Bool.and_eq_false_iff, Bool.or_eq_false_iff, Bool.not_eq_true', Bool.not_eq_false', beq_iff_eq, bne_iff_ne, ne_eq, Decidable.not_not] at hc2
      refine CW.skip ?_
      refine thenE_norm (h8 _ _ ?_); clear h8; try clear K8
      refine CW.seq (fun K10 h10 => ?_)
      refine CW.block ?_
      refine CW.seq (fun K11 h11 => ?_)
      obtain ⟨x, hx⟩ := get_of_lt (show i < ws.length by omega)
      have hfs := filter_snoc (p := notW r) hx
      have hfl := List.length_filter_le (notW r) (ws.take i)
      have htl : (ws.take i).length = i := by rw [List.length_take]; omega
      refine CW.drawH [] H (List.Sublist.refl _) (by kernel_rfl) rfl ?_
      clear H
      intro w7d H
      refine DL.take (i := 0) [] rfl (by kernel_rfl) (by kernel_rfl) (by kernel_rfl) (by kernel_rfl) rfl rfl (fun u H => x_move ) H ?_
      refine DL.take (i := 1) [] rfl (by kernel_rfl) (by kernel_rfl) (by kernel_rfl) (by kernel_rfl) rfl rfl (fun u H => x_nilCheck rfl) H ?_
      refine DL.take (i := 2) [] rfl (by kernel_rfl) (by kernel_rfl) (by kernel_rfl) (by kernel_rfl) rfl rfl (fun u H => x_fieldAddrO Try.underlying77 rfl Try.sizeOf75 (by decide) (show _ = 0 from rfl) rfl) H ?_
      refine DL.take (i := 3) [] rfl (by kernel_rfl) (by kernel_rfl) (by kernel_rfl) (by kernel_rfl) rfl rfl (fun u H => x_load Try.isAgg75 rfl (by first | exact SH.cellB H (by (repeat first | exact At.here | apply At.there); done) (by rfl) | exact SH.cellI H (by (repeat first | exact At.here | apply At.there); done) (by rfl) | assumption)) H ?_
      refine DL.take (i := 4) [] rfl (by kernel_rfl) (by kernel_rfl) (by kernel_rfl) (by kernel_rfl) rfl rfl (fun u H => x_move ) H ?_
      refine DL.take (i := 5) [] rfl (by kernel_rfl) (by kernel_rfl) (by kernel_rfl) (by kernel_rfl) rfl rfl (fun u H => x_indexAddrV Try.underlying75 (by simp only [upd_get, ev, Nat.reduceEqDiff, ↓reduceIte] <;> rfl) rfl (by first | assumption | exact SH.rsR H (by (repeat first | exact At.here | apply At.there); done) | exact SH.rsO H (by (repeat first | exact At.here | apply At.there); done) | exact (Rs.nil : Rs Non _ _ _)) (by exact Try.sizeOf128) (by omega) (by omega)) H ?_
      refine DL.take (i := 6) [] rfl (by kernel_rfl) (by kernel_rfl) (by kernel_rfl) (by kernel_rfl) rfl rfl (fun u H => x_fieldAddrO Try.underlying128 rfl Try.sizeOf29 (by decide) (show _ + 0 = _ from rfl) rfl) H ?_
      refine DL.take (i := 7) [] rfl (by kernel_rfl) (by kernel_rfl) (by kernel_rfl) (by kernel_rfl) rfl rfl (fun u H => x_fieldAddrO Try.underlying29 rfl Try.sizeOf3 (by decide) (show _ + 0 = _ from rfl) rfl) H ?_
      refine DL.take (i := 8) [] rfl (by kernel_rfl) (by kernel_rfl) (by kernel_rfl) (by kernel_rfl) rfl rfl (fun u H => x_load Try.isAgg3 rfl (by first | exact Rs.cell (by first | assumption | exact SH.rsR H (by (repeat first | exact At.here | apply At.there); done) | exact SH.rsO H (by (repeat first | exact At.here | apply At.there); done) | exact (Rs.nil : Rs Non _ _ _)) (by assumption) (by rfl) | exact Rs.cell0 (by first | assumption | exact SH.rsR H (by (repeat first | exact At.here | apply At.there); done) | exact SH.rsO H (by (repeat first | exact At.here | apply At.there); done) | exact (Rs.nil : Rs Non _ _ _)) (by assumption) (by rfl) | assumption)) H ?_
      refine DL.take (i := 9) [] rfl (by kernel_rfl) (by kernel_rfl) (by kernel_rfl) (by kernel_rfl) rfl rfl (fun u H => x_fieldAddrO Try.underlying29 rfl Try.sizeOf3 (by decide) (show _ = 0 from rfl) rfl) H ?_
      refine DL.take (i := 10) [] rfl (by kernel_rfl) (by kernel_rfl) (by kernel_rfl) (by kernel_rfl) rfl rfl (fun u H => x_load Try.isAgg3 rfl (by first | exact SH.cellB H (by (repeat first | exact At.here | apply At.there); done) (by rfl) | assumption)) H ?_
      refine DL.take (i := 11) [] rfl (by kernel_rfl) (by kernel_rfl) (by kernel_rfl) (by kernel_rfl) rfl rfl (fun u H => x_neq rfl rfl) H ?_
      refine DL.done (by kernel_rfl) ?_
      refine thenE_norm ?_
      refine cut (K := K11) [0, 2, 4, 7, 8, 32] (fun σ => ?_)
      simp only [setL, keepE, upd_get, ev, Nat.reduceEqDiff, ↓reduceIte]
      refine h11 _ _ ?_; clear h11; try clear K11
      refine CW.cond rfl (fun hc3 => ?_) (fun hc3 => ?_)
      · try simp only [decide_eq_true_eq, decide_eq_false_iff_not, Bool.and_eq_true, Bool.or_eq_true, Bool.and_eq_false_iff, Bool.or_eq_false_iff, Bool.not_eq_true', Bool.not_eq_false', beq_iff_eq, bne_iff_ne, ne_eq, Decidable.not_not] at hc3
        refine CW.region ?_
        refine r_move rfl ?_
        refine r_move rfl ?_
        refine r_nilCheck rfl rfl ?_
        refine r_fieldAddrO rfl Try.underlying77 rfl Try.sizeOf75 (by decide) (show _ = 0 from rfl) rfl ?_
        refine r_load rfl Try.isAgg75 rfl (by first | exact SH.cellB H (by (repeat first | exact At.here | apply At.there); done) (by rfl) | exact SH.cellI H (by (repeat first | exact At.here | apply At.there); done) (by rfl) | assumption) ?_
        refine r_move rfl ?_
        refine r_indexAddrV rfl Try.underlying75 (by simp only [upd_get, ev, Nat.reduceEqDiff, ↓reduceIte] <;> rfl) rfl (by first | assumption | exact SH.rsR H (by (repeat first | exact At.here | apply At.there); done) | exact SH.rsO H (by (repeat first | exact At.here | apply At.there); done) | exact (Rs.nil : Rs Non _ _ _)) (by exact Try.sizeOf128) (by omega) (by omega) ?_
        refine r_loadA rfl Try.isAgg128 Try.sizeOf128 rfl (by first | exact Rs.cells0 (by first | assumption | exact SH.rsR H (by (repeat first | exact At.here | apply At.there); done) | exact SH.rsO H (by (repeat first | exact At.here | apply At.there); done) | exact (Rs.nil : Rs Non _ _ _)) (by assumption)) (by rfl) ?_
        refine r_buildSliceA (vs := [_]) rfl Try.underlying75 Try.sizeOf128 Try.zeroValue128 rfl rfl rfl rfl (by simp only [List.map_cons, List.map_nil, List.toList_toArray, numbered, Nat.reduceAdd, upd_get, ev, Nat.reduceEqDiff, ↓reduceIte] <;> rfl) rfl (by intro v hv; simp only [List.mem_cons, List.not_mem_nil, or_false] at hv; rcases hv with rfl <;> rfl) ?_
        intro b8_8 w8_8 hb8_8 hs8_8 hE8_8 hB8_8
        replace H := SH.call H (SH.fromB hE8_8 hb8_8 hs8_8 hB8_8)
        clear hb8_8 hs8_8 hE8_8 hB8_8
        try dsimp only [replC, List.cons_append, List.nil_append, List.append_nil, agg, cellsL, Value.cells, List.toList_toArray, List.set_cons_zero, List.set_cons_succ, spliceL, List.take_succ_cons, List.take_zero, List.drop_succ_cons, List.drop_zero, List.length_cons, List.length_nil, Nat.reduceAdd, Row.cells, Gr.L, Rep.L, Mem.L, Cm.L, Rq.L, Ent.L, ActP.L, Wt.L] at H
        replace H := SH.row (b := b8_8) (xs := ([x] : List Wt)) (n := 1) (cap := 1) H (by (repeat first | exact At.here | apply At.there); done) (by simp only [flat, List.flatMap_cons, List.flatMap_nil, cellsL, agg, List.append_nil, List.cons_append, List.nil_append, List.toList_toArray, Row.cells, Gr.L, Rep.L, Mem.L, Cm.L, Rq.L, Ent.L, ActP.L, Wt.L] <;> rfl) (by intro x hx; first | rfl | (simp at hx; done) | (simp only [List.mem_cons, List.not_mem_nil, or_false] at hx; rcases hx with rfl <;> first | rfl | exact (by first | rfl | assumption | exact Rs.oneC (by first | assumption | exact SH.rsR H (by (repeat first | exact At.here | apply At.there); done) | exact SH.rsO H (by (repeat first | exact At.here | apply At.there); done) | exact (Rs.nil : Rs Non _ _ _)) | (simp only [List.all_cons, List.all_nil, Bool.and_true, Bool.and_eq_true, Row.cells, Gr.L, Rep.L, Mem.L, Cm.L, Rq.L, Ent.L, ActP.L, Wt.L]; (repeat' constructor) <;> first | rfl | assumption | exact Rs.oneC (by first | assumption | exact SH.rsR H (by (repeat first | exact At.here | apply At.there); done) | exact SH.rsO H (by (repeat first | exact At.here | apply At.there); done) | exact (Rs.nil : Rs Non _ _ _)))))) (by rfl) rfl (by decide)
        try dsimp only [replC, List.cons_append, List.nil_append, List.append_nil, agg, cellsL, Value.cells, List.toList_toArray, List.set_cons_zero, List.set_cons_succ, spliceL, List.take_succ_cons, List.take_zero, List.drop_succ_cons, List.drop_zero, List.length_cons, List.length_nil, Nat.reduceAdd, Row.cells, Gr.L, Rep.L, Mem.L, Cm.L, Rq.L, Ent.L, ActP.L, Wt.L] at H
        refine s_append H rfl Try.underlying75 Try.underlying75 Try.type128 rfl (by simp only [upd_get, ev, Nat.reduceEqDiff, ↓reduceIte] <;> rfl) (by simp only [upd_get, ev, Nat.reduceEqDiff, ↓reduceIte] <;> rfl) (by (repeat first | exact At.here | apply At.there); done) (by first | assumption | exact SH.rsR H (by (repeat first | exact At.here | apply At.there); done) | exact SH.rsO H (by (repeat first | exact At.here | apply At.there); done) | exact (Rs.nil : Rs Non _ _ _)) (by rfl) (by rfl) (by first | omega | (simp only [Try.t128, List.length_append, List.length_cons, List.length_nil, List.length_map, maxLen]; omega) | (simp [Try.t128, maxLen]; omega)) (by first | omega | (simp only [Try.t128, List.length_append, List.length_cons, List.length_nil, List.length_map, maxLen]; omega) | (simp [Try.t128, maxLen]; omega)) ?_
        clear H
        intro v8_9 w8_9 g8_9 H hN8_9
        try dsimp only [replC, List.cons_append, List.nil_append, List.append_nil] at H
        refine r_assign rfl ?_
        refine LW.nil ?_
        refine blockE_norm ?_
        refine thenE_norm (h10 _ _ ?_); clear h10; try clear K10
        refine CW.region ?_
        refine r_move rfl ?_
        refine r_add rfl rfl rfl (wr_i64 (by omega) (by omega)) ?_
        refine r_assign rfl ?_
        refine LW.nil ?_
        refine thenE_norm ⟨rfl, ?_⟩
        exact ⟨ws.length - (i + 1), by omega, i + 1, _, _, rfl, by omega, rfl, any_snoc hx hno (by rw [twW, decide_eq_false hc3]; rfl), by rw [hfs, if_pos (by rw [notW]; exact decide_eq_true hc3)]; exact SH.sel H [0, 1, 2, 3] (by decide) rfl⟩
      · try simp only [decide_eq_true_eq, decide_eq_false_iff_not, Bool.and_eq_true, Bool.or_eq_true, Bool.and_eq_false_iff, Bool.or_eq_false_iff, Bool.not_eq_true', Bool.not_eq_false', beq_iff_eq, bne_iff_ne, ne_eq, Decidable.not_not] at hc3
        refine CW.seq (fun K12 h12 => ?_)
        refine CW.drawH [] H (List.Sublist.refl _) (by kernel_rfl) rfl ?_
        clear H
        intro w9d H
        refine DL.take (i := 0) [] rfl (by kernel_rfl) (by kernel_rfl) (by kernel_rfl) (by kernel_rfl) rfl rfl (fun u H => x_move ) H ?_
        refine DL.take (i := 1) [] rfl (by kernel_rfl) (by kernel_rfl) (by kernel_rfl) (by kernel_rfl) rfl rfl (fun u H => x_nilCheck rfl) H ?_
        refine DL.take (i := 2) [] rfl (by kernel_rfl) (by kernel_rfl) (by kernel_rfl) (by kernel_rfl) rfl rfl (fun u H => x_fieldAddrO Try.underlying77 rfl Try.sizeOf75 (by decide) (show _ = 0 from rfl) rfl) H ?_
        refine DL.take (i := 3) [] rfl (by kernel_rfl) (by kernel_rfl) (by kernel_rfl) (by kernel_rfl) rfl rfl (fun u H => x_load Try.isAgg75 rfl (by first | exact SH.cellB H (by (repeat first | exact At.here | apply At.there); done) (by rfl) | exact SH.cellI H (by (repeat first | exact At.here | apply At.there); done) (by rfl) | assumption)) H ?_
        refine DL.take (i := 4) [] rfl (by kernel_rfl) (by kernel_rfl) (by kernel_rfl) (by kernel_rfl) rfl rfl (fun u H => x_move ) H ?_
        refine DL.take (i := 5) [] rfl (by kernel_rfl) (by kernel_rfl) (by kernel_rfl) (by kernel_rfl) rfl rfl (fun u H => x_indexAddrV Try.underlying75 (by simp only [upd_get, ev, Nat.reduceEqDiff, ↓reduceIte] <;> rfl) rfl (by first | assumption | exact SH.rsR H (by (repeat first | exact At.here | apply At.there); done) | exact SH.rsO H (by (repeat first | exact At.here | apply At.there); done) | exact (Rs.nil : Rs Non _ _ _)) (by exact Try.sizeOf128) (by omega) (by omega)) H ?_
        refine DL.take (i := 6) [] rfl (by kernel_rfl) (by kernel_rfl) (by kernel_rfl) (by kernel_rfl) rfl rfl (fun u H => x_fieldAddrO Try.underlying128 rfl Try.sizeOf29 (by decide) (show _ + 0 = _ from rfl) rfl) H ?_
        refine DL.take (i := 7) [] rfl (by kernel_rfl) (by kernel_rfl) (by kernel_rfl) (by kernel_rfl) rfl rfl (fun u H => x_fieldAddrO Try.underlying29 rfl Try.sizeOf3 (by decide) (show _ + 1 = _ from rfl) rfl) H ?_
        refine DL.take (i := 8) [] rfl (by kernel_rfl) (by kernel_rfl) (by kernel_rfl) (by kernel_rfl) rfl rfl (fun u H => x_load Try.isAgg3 rfl (by first | exact Rs.cell (by first | assumption | exact SH.rsR H (by (repeat first | exact At.here | apply At.there); done) | exact SH.rsO H (by (repeat first | exact At.here | apply At.there); done) | exact (Rs.nil : Rs Non _ _ _)) (by assumption) (by rfl) | exact Rs.cell0 (by first | assumption | exact SH.rsR H (by (repeat first | exact At.here | apply At.there); done) | exact SH.rsO H (by (repeat first | exact At.here | apply At.there); done) | exact (Rs.nil : Rs Non _ _ _)) (by assumption) (by rfl) | assumption)) H ?_
        refine DL.take (i := 9) [] rfl (by kernel_rfl) (by kernel_rfl) (by kernel_rfl) (by kernel_rfl) rfl rfl (fun u H => x_fieldAddrO Try.underlying29 rfl Try.sizeOf3 (by decide) (show _ = 1 from rfl) rfl) H ?_
        refine DL.take (i := 10) [] rfl (by kernel_rfl) (by kernel_rfl) (by kernel_rfl) (by kernel_rfl) rfl rfl (fun u H => x_load Try.isAgg3 rfl (by first | exact SH.cellB H (by (repeat first | exact At.here | apply At.there); done) (by rfl) | assumption)) H ?_
        refine DL.take (i := 11) [] rfl (by kernel_rfl) (by kernel_rfl) (by kernel_rfl) (by kernel_rfl) rfl rfl (fun u H => x_geq rfl rfl) H ?_
        refine DL.done (by kernel_rfl) ?_
        refine thenE_norm ?_
        refine cut (K := K12) [0, 2, 4, 7, 8, 54] (fun σ => ?_)
        simp only [setL, keepE, upd_get, ev, Nat.reduceEqDiff, ↓reduceIte]
        refine h12 _ _ ?_; clear h12; try clear K12
        refine CW.cond rfl (fun hc4 => ?_) (fun hc4 => ?_)
        · try simp only [decide_eq_true_eq, decide_eq_false_iff_not, Bool.and_eq_true, Bool.or_eq_true, Bool.and_eq_false_iff, Bool.or_eq_false_iff, Bool.not_eq_true', Bool.not_eq_false', beq_iff_eq, bne_iff_ne, ne_eq, Decidable.not_not] at hc4
          refine CW.seq (fun K13 h13 => ?_)
          refine CW.region ?_
          refine r_assign rfl ?_
          refine LW.nil ?_
          refine thenE_norm (h13 _ _ ?_); clear h13; try clear K13
          refine CW.ret (blockE_ret (thenE_ret (thenE_ret (blockE_ret (thenE_ret (ret1 Try.results49 (by simp only [upd_get, ev, Nat.reduceEqDiff, ↓reduceIte]; rfl) ?_))))))
          have hany : ws.any (twW r) = true := List.any_eq_true.2 ⟨x, List.mem_of_getElem? hx, by rw [twW, decide_eq_true (by omega), decide_eq_true (by omega)]; rfl⟩
          rw [addW, if_pos hmr, if_pos hany]
          obtain ⟨FN', K⟩ := RPoolA.mk hl6 (SH.sel H [0, 1] (by decide) (by rfl))
          exact ⟨_, rfl, K⟩
        · try simp only [decide_eq_true_eq, decide_eq_false_iff_not, Bool.and_eq_true, Bool.or_eq_true, Bool.and_eq_false_iff, Bool.or_eq_false_iff, Bool.not_eq_true', Bool.not_eq_false', beq_iff_eq, bne_iff_ne, ne_eq, Decidable.not_not] at hc4
          refine CW.skip ?_
          refine blockE_norm ?_
          refine thenE_norm (h10 _ _ ?_); clear h10; try clear K10
          refine CW.region ?_
          refine r_move rfl ?_
          refine r_add rfl rfl rfl (wr_i64 (by omega) (by omega)) ?_
          refine r_assign rfl ?_
          refine LW.nil ?_
          refine thenE_norm ⟨rfl, ?_⟩
          exact ⟨ws.length - (i + 1), by omega, i + 1, _, _, rfl, by omega, rfl, any_snoc hx hno (by rw [twW, decide_eq_false (p := r.seq ≤ x.req.seq) (by omega)]; simp), by rw [hfs, if_neg (by rw [notW]; simp; omega), List.append_nil]; exact SH.sel H [0, 1, 2, 3] (by decide) rfl⟩
    · try simp only [decide_eq_true_eq, decide_eq_false_iff_not, Bool.and_eq_true, Bool.or_eq_true, Bool.and_eq_false_iff, Bool.or_eq_false_iff, Bool.not_eq_true', Bool.not_eq_false', beq_iff_eq, bne_iff_ne, ne_eq, Decidable.not_not] at hc2
      refine CW.exit (thenE_exit (thenE_exit (blockE_hit ?_)))
      refine thenE_norm (h6 _ _ ?_); clear h6; try clear K6
      refine CW.seq (fun K14 h14 => ?_)
      refine CW.seq (fun K15 h15 => ?_)
      obtain rfl : i = ws.length := by omega
      rw [List.take_length] at H hno
      have hfl := List.length_filter_le (notW r) ws
      refine CW.region ?_
      refine r_move rfl ?_
      first
        | refine r_lenV rfl Try.underlying75 (by simp only [upd_get, ev, Nat.reduceEqDiff, ↓reduceIte] <;> rfl) (by first | assumption | exact SH.rsR H (by (repeat first | exact At.here | apply At.there); done) | exact SH.rsO H (by (repeat first | exact At.here | apply At.there); done) | exact (Rs.nil : Rs Non _ _ _)) ?_
        | refine r_len rfl Try.underlying75 rfl ?_
      refine r_geq rfl rfl rfl ?_
      refine LW.nil ?_
      refine thenE_norm ?_
      refine cut (K := K15) [0, 2, 4, 7, 57] (fun σ => ?_)
      simp only [setL, keepE, upd_get, ev, Nat.reduceEqDiff, ↓reduceIte]
      refine h15 _ _ ?_; clear h15; try clear K15
      refine CW.cond rfl (fun hc5 => ?_) (fun hc5 => ?_)
      · try simp only [decide_eq_true_eq, decide_eq_false_iff_not, Bool.and_eq_true, Bool.or_eq_true, Bool.and_eq_false_iff, Bool.or_eq_false_iff, Bool.not_eq_true', Bool.not_eq_false', beq_iff_eq, bne_iff_ne, ne_eq, Decidable.not_not] at hc5
        refine CW.seq (fun K16 h16 => ?_)
        refine CW.region ?_
        refine r_assign rfl ?_
        refine LW.nil ?_
        refine thenE_norm (h16 _ _ ?_); clear h16; try clear K16
        refine CW.ret (thenE_ret (ret1 Try.results49 (by simp only [upd_get, ev, Nat.reduceEqDiff, ↓reduceIte]; rfl) ?_))
        rw [addW, if_pos hmr, if_neg (by rw [hno]; decide), if_pos (by omega)]
        obtain ⟨FN', K⟩ := RPoolA.mk hl6 (SH.sel H [0, 1] (by decide) (by rfl))
        exact ⟨_, rfl, K⟩
      · try simp only [decide_eq_true_eq, decide_eq_false_iff_not, Bool.and_eq_true, Bool.or_eq_true, Bool.and_eq_false_iff, Bool.or_eq_false_iff, Bool.not_eq_true', Bool.not_eq_false', beq_iff_eq, bne_iff_ne, ne_eq, Decidable.not_not] at hc5
        refine CW.skip ?_
        refine thenE_norm (h14 _ _ ?_); clear h14; try clear K14
        refine CW.seq (fun K17 h17 => ?_)
        refine CW.drawP [0, 2] [10] H (by dsimp only [pickC, nthC] <;> rfl) (by repeat first | exact List.Sublist.refl _ | exact List.nil_sublist _ | apply List.Sublist.cons_cons | apply List.Sublist.cons) (by kernel_rfl) rfl ?_
        clear H
        intro w13d H
        refine DL.take (i := 0) [0, 8, 9, 10] rfl (by kernel_rfl) (by kernel_rfl) (by kernel_rfl) (by kernel_rfl) rfl rfl (fun u H => x_move ) (SH.sub H (by repeat first | exact List.Sublist.refl _ | exact List.nil_sublist _ | apply List.Sublist.cons_cons | apply List.Sublist.cons)) ?_
        refine DL.take (i := 1) [1, 7, 8, 9, 10] rfl (by kernel_rfl) (by kernel_rfl) (by kernel_rfl) (by kernel_rfl) rfl rfl (fun u H => x_move ) (SH.sub H (by repeat first | exact List.Sublist.refl _ | exact List.nil_sublist _ | apply List.Sublist.cons_cons | apply List.Sublist.cons)) ?_
        refine DL.take (i := 2) [2, 5, 6, 7, 8, 9, 10] rfl (by kernel_rfl) (by kernel_rfl) (by kernel_rfl) (by kernel_rfl) rfl rfl (fun u H => x_loadA Try.isAgg29 Try.sizeOf29 rfl (by first | exact SH.cells H (by (repeat first | exact At.here | apply At.there); done)) (by rfl)) (SH.sub H (by repeat first | exact List.Sublist.refl _ | exact List.nil_sublist _ | apply List.Sublist.cons_cons | apply List.Sublist.cons)) ?_
        refine DL.take (i := 3) [3, 4, 5, 6, 7, 8, 9, 10] rfl (by kernel_rfl) (by kernel_rfl) (by kernel_rfl) (by kernel_rfl) rfl rfl (fun u H => x_move ) (SH.sub H (by repeat first | exact List.Sublist.refl _ | exact List.nil_sublist _ | apply List.Sublist.cons_cons | apply List.Sublist.cons)) ?_
        refine DL.one (i := 4) (by kernel_rfl) rfl rfl ?_
        refine r_call rfl Try.call92 (by simp only [List.map_cons, List.map_nil, List.map_toArray, List.toList_toArray, upd_get, ev, Nat.reduceEqDiff, ↓reduceIte] <;> rfl) (Near_c _ _) ?_
        rintro _ _ ⟨rfl, rfl⟩
        refine ⟨_, rfl, ?_⟩
        refine LW.nil (thenE_norm ⟨fun _ => (SH.sub H (by repeat first | exact List.Sublist.refl _ | exact List.nil_sublist _ | apply List.Sublist.cons_cons | apply List.Sublist.cons)), ?_⟩)
        refine DL.take (i := 5) [5, 6, 7, 8, 9, 10] rfl (by kernel_rfl) (by kernel_rfl) (by kernel_rfl) (by kernel_rfl) rfl rfl (fun u H => x_buildQ Try.underlying128 Try.zeroValue128 rfl (pl := [(0, 5), (5, 1), (6, 1), (7, 1), (8, 1)]) (by intro w; simp [go_sem]) (qs := [(0, [_, _, _, _, _]), (1, [_])]) (cs := [_, _, _, _, _, _, .int .i64 0, .int .i64 0, .bool false]) ⟨rfl, (by simp only [upd_get, ev, Nat.reduceEqDiff, ↓reduceIte, cellsL, agg, List.toList_toArray, Row.cells, Gr.L, Rep.L, Mem.L, Cm.L, Rq.L, Ent.L, ActP.L, Wt.L] <;> rfl), rfl, cells_one (by simp only [upd_get, ev, Nat.reduceEqDiff, ↓reduceIte] <;> rfl) (by first | rfl | exact Rs.oneC (by first | assumption | exact SH.rsR H (by (repeat first | exact At.here | apply At.there); done) | exact SH.rsO H (by (repeat first | exact At.here | apply At.there); done) | exact (Rs.nil : Rs Non _ _ _))), trivial⟩ rfl) (SH.sub H (by repeat first | exact List.Sublist.refl _ | exact List.nil_sublist _ | apply List.Sublist.cons_cons | apply List.Sublist.cons)) ?_
        refine DL.one (i := 6) (by kernel_rfl) rfl rfl ?_
        refine r_buildSliceA (vs := [_]) rfl Try.underlying75 Try.sizeOf128 Try.zeroValue128 rfl rfl rfl rfl (by simp only [List.map_cons, List.map_nil, List.toList_toArray, numbered, Nat.reduceAdd, upd_get, ev, Nat.reduceEqDiff, ↓reduceIte] <;> rfl) rfl (by intro v hv; simp only [List.mem_cons, List.not_mem_nil, or_false] at hv; rcases hv with rfl <;> rfl) ?_
        intro b13_6 w13_6 hb13_6 hs13_6 hE13_6 hB13_6
        replace H := SH.call H (SH.fromB hE13_6 hb13_6 hs13_6 hB13_6)
        clear hb13_6 hs13_6 hE13_6 hB13_6
        try dsimp only [replC, List.cons_append, List.nil_append, List.append_nil, agg, cellsL, Value.cells, List.toList_toArray, List.set_cons_zero, List.set_cons_succ, spliceL, List.take_succ_cons, List.take_zero, List.drop_succ_cons, List.drop_zero, List.length_cons, List.length_nil, Nat.reduceAdd, Row.cells, Gr.L, Rep.L, Mem.L, Cm.L, Rq.L, Ent.L, ActP.L, Wt.L] at H
        replace H := SH.row (b := b13_6) (xs := ([⟨⟨_, _, ⟨_, _, _⟩⟩, _, _, _, _⟩] : List Wt)) (n := 1) (cap := 1) H (by (repeat first | exact At.here | apply At.there); done) (by simp only [flat, List.flatMap_cons, List.flatMap_nil, cellsL, agg, List.append_nil, List.cons_append, List.nil_append, List.toList_toArray, Row.cells, Gr.L, Rep.L, Mem.L, Cm.L, Rq.L, Ent.L, ActP.L, Wt.L] <;> rfl) (by intro x hx; first | rfl | (simp at hx; done) | (simp only [List.mem_cons, List.not_mem_nil, or_false] at hx; rcases hx with rfl <;> first | rfl | exact (by first | rfl | assumption | exact Rs.oneC (by first | assumption | exact SH.rsR H (by (repeat first | exact At.here | apply At.there); done) | exact SH.rsO H (by (repeat first | exact At.here | apply At.there); done) | exact (Rs.nil : Rs Non _ _ _)) | (simp only [List.all_cons, List.all_nil, Bool.and_true, Bool.and_eq_true, Row.cells, Gr.L, Rep.L, Mem.L, Cm.L, Rq.L, Ent.L, ActP.L, Wt.L]; (repeat' constructor) <;> first | rfl | assumption | exact Rs.oneC (by first | assumption | exact SH.rsR H (by (repeat first | exact At.here | apply At.there); done) | exact SH.rsO H (by (repeat first | exact At.here | apply At.there); done) | exact (Rs.nil : Rs Non _ _ _)))))) (by rfl) rfl (by decide)
        try dsimp only [replC, List.cons_append, List.nil_append, List.append_nil, agg, cellsL, Value.cells, List.toList_toArray, List.set_cons_zero, List.set_cons_succ, spliceL, List.take_succ_cons, List.take_zero, List.drop_succ_cons, List.drop_zero, List.length_cons, List.length_nil, Nat.reduceAdd, Row.cells, Gr.L, Rep.L, Mem.L, Cm.L, Rq.L, Ent.L, ActP.L, Wt.L] at H
        refine LW.nil (thenE_norm ⟨fun _ => (SH.sub H (by repeat first | exact List.Sublist.refl _ | exact List.nil_sublist _ | apply List.Sublist.cons_cons | apply List.Sublist.cons)), ?_⟩)
        refine DL.one (i := 7) (by kernel_rfl) rfl rfl ?_
        first
          | refine s_append H rfl Try.underlying75 Try.underlying75 Try.type128 rfl (by simp only [upd_get, ev, Nat.reduceEqDiff, ↓reduceIte] <;> rfl) (by simp only [upd_get, ev, Nat.reduceEqDiff, ↓reduceIte] <;> rfl) (by (repeat first | exact At.here | apply At.there); done) (by first | assumption | exact SH.rsR H (by (repeat first | exact At.here | apply At.there); done) | exact SH.rsO H (by (repeat first | exact At.here | apply At.there); done) | exact (Rs.nil : Rs Non _ _ _)) (by rfl) (by rfl) (by first | omega | (simp only [Try.t128, List.length_append, List.length_cons, List.length_nil, List.length_map, maxLen]; omega) | (simp [Try.t128, maxLen]; omega)) (by first | omega | (simp only [Try.t128, List.length_append, List.length_cons, List.length_nil, List.length_map, maxLen]; omega) | (simp [Try.t128, maxLen]; omega)) ?_
          | refine s_appendNil H rfl Try.underlying75 Try.underlying75 Try.type128 rfl rfl (by simp only [upd_get, ev, Nat.reduceEqDiff, ↓reduceIte] <;> rfl) (by first | assumption | exact SH.rsR H (by (repeat first | exact At.here | apply At.there); done) | exact SH.rsO H (by (repeat first | exact At.here | apply At.there); done) | exact (Rs.nil : Rs Non _ _ _)) (by rfl) (by rfl) (by first | omega | (simp only [Try.t128, List.length_append, List.length_cons, List.length_nil, List.length_map, maxLen]; omega) | (simp [Try.t128, maxLen]; omega)) ?_
        clear H
        intro v13_7 w13_7 g13_7 H hN13_7
        try dsimp only [replC, List.cons_append, List.nil_append, List.append_nil] at H
        refine LW.nil (thenE_norm ⟨fun _ => (SH.sub H (by repeat first | exact List.Sublist.refl _ | exact List.nil_sublist _ | apply List.Sublist.cons_cons | apply List.Sublist.cons)), ?_⟩)
        refine DL.take (i := 8) [8, 9, 10] rfl (by kernel_rfl) (by kernel_rfl) (by kernel_rfl) (by kernel_rfl) rfl rfl (fun u H => x_nilCheck rfl) (SH.sub H (by repeat first | exact List.Sublist.refl _ | exact List.nil_sublist _ | apply List.Sublist.cons_cons | apply List.Sublist.cons)) ?_
        refine DL.take (i := 9) [9, 10] rfl (by kernel_rfl) (by kernel_rfl) (by kernel_rfl) (by kernel_rfl) rfl rfl (fun u H => x_fieldAddrO Try.underlying77 rfl Try.sizeOf75 (by decide) (show _ = 0 from rfl) rfl) (SH.sub H (by repeat first | exact List.Sublist.refl _ | exact List.nil_sublist _ | apply List.Sublist.cons_cons | apply List.Sublist.cons)) ?_
        refine DL.one (i := 10) (by kernel_rfl) rfl rfl ?_
        refine s_store H Try.sizeOf75 rfl (by simp only [upd_get, ev, Nat.reduceEqDiff, ↓reduceIte] <;> rfl) (by first | rfl | assumption | exact Rs.oneC (by first | assumption | exact SH.rsR H (by (repeat first | exact At.here | apply At.there); done) | exact SH.rsO H (by (repeat first | exact At.here | apply At.there); done) | exact (Rs.nil : Rs Non _ _ _)) | (simp only [List.all_cons, List.all_nil, Bool.and_true, Bool.and_eq_true, Row.cells, Gr.L, Rep.L, Mem.L, Cm.L, Rq.L, Ent.L, ActP.L, Wt.L]; (repeat' constructor) <;> first | rfl | assumption | exact Rs.oneC (by first | assumption | exact SH.rsR H (by (repeat first | exact At.here | apply At.there); done) | exact SH.rsO H (by (repeat first | exact At.here | apply At.there); done) | exact (Rs.nil : Rs Non _ _ _)))) (by (repeat first | exact At.here | apply At.there); done) (by first | (simp; done) | decide | omega) ?_
        clear H
        intro w13_10 H
        try dsimp only [replC, List.cons_append, List.nil_append, List.append_nil, agg, cellsL, Value.cells, List.toList_toArray, List.set_cons_zero, List.set_cons_succ, spliceL, List.take_succ_cons, List.take_zero, List.drop_succ_cons, List.drop_zero, List.length_cons, List.length_nil, Nat.reduceAdd, Row.cells, Gr.L, Rep.L, Mem.L, Cm.L, Rq.L, Ent.L, ActP.L, Wt.L] at H
        refine LW.nil (thenE_norm ⟨fun h => Bool.noConfusion (show true = false from h), ?_⟩)
        refine DL.done (by kernel_rfl) ?_
        refine thenE_norm ?_
        refine cut (K := K17) [] (fun σ => ?_)
        simp only [setL, keepE, upd_get, ev, Nat.reduceEqDiff, ↓reduceIte]
        refine h17 _ _ ?_; clear h17; try clear K17
        refine CW.seq (fun K18 h18 => ?_)
        refine CW.region ?_
        refine r_assign rfl ?_
        refine LW.nil ?_
        refine thenE_norm (h18 _ _ ?_); clear h18; try clear K18
        refine CW.ret (ret1 Try.results49 (by simp only [upd_get, ev, Nat.reduceEqDiff, ↓reduceIte]; rfl) ?_)
        rw [addW, if_pos hmr, if_neg (by rw [hno]; decide), if_neg (by omega)]
        obtain ⟨FN', K⟩ := RPoolA.mk (ws := ws.filter (notW r) ++ [⟨r, cutM now, 0, 0, false⟩]) (by rw [List.length_append, List.length_singleton]; omega) (SH.sel H [0, 3] (by decide) (by rfl))
        exact ⟨_, rfl, K⟩
theorem RList_c {q : Nat} {ws : List Wt} {FN : Nat → Prop} (w : World) (hN : RPoolA q ws FN w) :
    Calls Try.prog 56 #[.pointer (some ⟨q, 0, none⟩)] w fun e w' => ∃ v g, e = .returned v ∧ SH Non Non w w' [.O 29 v (ws.map Wt.req) g] := by
  obtain ⟨hl6, v, gp, hA⟩ := hN
  have H := SH.look hA
  simp only [List.map_cons, List.map_nil, toImm] at H
  refine calls_of_CW Try.func56 rfl Try.ntmps56 (Nat.le_of_ble_eq_true rfl) ?_
  simp only [argE, argFrom, Nat.reduceAdd]
  refine CW.seq (fun K1 h1 => ?_)
  refine CW.region ?_
  refine r_assign rfl ?_
  refine LW.nil ?_
  refine thenE_norm (h1 _ _ ?_); clear h1; try clear K1
  refine CW.seq (fun K2 h2 => ?_)
  refine CW.region ?_
  refine r_assign rfl ?_
  refine LW.nil ?_
  refine thenE_norm (h2 _ _ ?_); clear h2; try clear K2
  refine CW.seq (fun K3 h3 => ?_)
  refine CW.seq (fun K4 h4 => ?_)
  refine CW.region ?_
  refine r_assign rfl ?_
  refine LW.nil ?_
  refine thenE_norm (h4 _ _ ?_); clear h4; try clear K4
  refine CW.block ?_
  refine CW.loopR [0] [3, 4] (fun m vs w' => ∃ (i : Nat) (u : Value) (g : Option Nat), vs = [u, .int .i64 i] ∧ i ≤ ws.length ∧ m = ws.length - i ∧ SH Non Any w w' [.I (fun k => k = q) (fun w => Blk w q 77 [v]), .R (fun b => gp = some b) v ws, .O 29 u ((ws.take i).map Wt.req) g]) (ws.length) ?_ ?_
  · exact ⟨0, .slice none 0 0, none, rfl, by omega, by omega, H.addO (α := Rq) 29⟩
  try clear H
  rintro n1 vs1 wL1 σ ⟨i, u, g, rfl, hi, rfl, H⟩
  simp only [setL, keepE, upd_get, ev, Nat.reduceEqDiff, ↓reduceIte]
  refine CW.seq (fun K5 h5 => ?_)
  refine CW.seq (fun K6 h6 => ?_)
  refine CW.region ?_
  refine r_move rfl ?_
  refine r_move rfl ?_
  refine r_nilCheck rfl rfl ?_
  refine r_fieldAddrO rfl Try.underlying77 rfl Try.sizeOf75 (by decide) (show _ = 0 from rfl) rfl ?_
  refine r_load rfl Try.isAgg75 rfl (by first | exact SH.cellB H (by (repeat first | exact At.here | apply At.there); done) (by rfl) | exact SH.cellI H (by (repeat first | exact At.here | apply At.there); done) (by rfl) | assumption) ?_
  first
    | refine r_lenV rfl Try.underlying75 (by simp only [upd_get, ev, Nat.reduceEqDiff, ↓reduceIte] <;> rfl) (by first | assumption | exact SH.rsR H (by (repeat first | exact At.here | apply At.there); done) | exact SH.rsO H (by (repeat first | exact At.here | apply At.there); done) | exact (Rs.nil : Rs Non _ _ _)) ?_
    | refine r_len rfl Try.underlying75 rfl ?_
  refine r_lss rfl rfl rfl ?_
  refine LW.nil ?_
  refine thenE_norm (h6 _ _ ?_); clear h6; try clear K6
  refine CW.cond rfl (fun hc1 => ?_) (fun hc1 => ?_)
  · try simp only [decide_eq_true_eq, decide_eq_false_iff_not, Bool.and_eq_true, Bool.or_eq_true, Bool.and_eq_false_iff, Bool.or_eq_false_iff, Bool.not_eq_true', Bool.not_eq_false', beq_iff_eq, bne_iff_ne, ne_eq, Decidable.not_not] at hc1
    refine CW.skip ?_
    refine thenE_norm (h5 _ _ ?_); clear h5; try clear K5
    refine CW.seq (fun K7 h7 => ?_)
    refine CW.block ?_
    obtain ⟨x, hx⟩ := get_of_lt (show i < ws.length by omega)
    have htl : ((ws.take i).map Wt.req).length = i := by rw [List.length_map, List.length_take]; omega
    have hts : (ws.take (i + 1)).map Wt.req = (ws.take i).map Wt.req ++ [x.req] := by rw [V.take_snoc hx, List.map_append]; rfl
    refine CW.region ?_
    refine r_move rfl ?_
    refine r_move rfl ?_
    refine r_nilCheck rfl rfl ?_
    refine r_fieldAddrO rfl Try.underlying77 rfl Try.sizeOf75 (by decide) (show _ = 0 from rfl) rfl ?_
    refine r_load rfl Try.isAgg75 rfl (by first | exact SH.cellB H (by (repeat first | exact At.here | apply At.there); done) (by rfl) | exact SH.cellI H (by (repeat first | exact At.here | apply At.there); done) (by rfl) | assumption) ?_
    refine r_move rfl ?_
    refine r_indexAddrV rfl Try.underlying75 (by simp only [upd_get, ev, Nat.reduceEqDiff, ↓reduceIte] <;> rfl) rfl (by first | assumption | exact SH.rsR H (by (repeat first | exact At.here | apply At.there); done) | exact SH.rsO H (by (repeat first | exact At.here | apply At.there); done) | exact (Rs.nil : Rs Non _ _ _)) (by exact Try.sizeOf128) (by omega) (by omega) ?_
    refine r_fieldAddrO rfl Try.underlying128 rfl Try.sizeOf29 (by decide) (show _ + 0 = _ from rfl) rfl ?_
    refine r_loadA rfl Try.isAgg29 Try.sizeOf29 rfl (by first | exact Rs.partOf (n := 5) (by first | assumption | exact SH.rsR H (by (repeat first | exact At.here | apply At.there); done) | exact SH.rsO H (by (repeat first | exact At.here | apply At.there); done) | exact (Rs.nil : Rs Non _ _ _)) (by assumption) (by simp only [Row.cells, List.drop_succ_cons, List.drop_zero, List.take_succ_cons, List.take_zero, Gr.L, Rep.L, Mem.L, Cm.L, Rq.L, Ent.L, ActP.L, Wt.L] <;> rfl) | exact Rs.cells0 (by first | assumption | exact SH.rsR H (by (repeat first | exact At.here | apply At.there); done) | exact SH.rsO H (by (repeat first | exact At.here | apply At.there); done) | exact (Rs.nil : Rs Non _ _ _)) (by assumption)) (by rfl) ?_
    refine r_buildSliceA (vs := [_]) rfl Try.underlying30 Try.sizeOf29 Try.zeroValue29 rfl rfl rfl rfl (by simp only [List.map_cons, List.map_nil, List.toList_toArray, numbered, Nat.reduceAdd, upd_get, ev, Nat.reduceEqDiff, ↓reduceIte] <;> rfl) rfl (by intro v hv; simp only [List.mem_cons, List.not_mem_nil, or_false] at hv; rcases hv with rfl <;> rfl) ?_
    intro b5_9 w5_9 hb5_9 hs5_9 hE5_9 hB5_9
    replace H := SH.call H (SH.fromB hE5_9 hb5_9 hs5_9 hB5_9)
    clear hb5_9 hs5_9 hE5_9 hB5_9
    try dsimp only [replC, List.cons_append, List.nil_append, List.append_nil, agg, cellsL, Value.cells, List.toList_toArray, List.set_cons_zero, List.set_cons_succ, spliceL, List.take_succ_cons, List.take_zero, List.drop_succ_cons, List.drop_zero, List.length_cons, List.length_nil, Nat.reduceAdd, Row.cells, Gr.L, Rep.L, Mem.L, Cm.L, Rq.L, Ent.L, ActP.L, Wt.L] at H
    replace H := SH.row (b := b5_9) (xs := ([x.req] : List Rq)) (n := 1) (cap := 1) H (by (repeat first | exact At.here | apply At.there); done) (by simp only [flat, List.flatMap_cons, List.flatMap_nil, cellsL, agg, List.append_nil, List.cons_append, List.nil_append, List.toList_toArray, Row.cells, Gr.L, Rep.L, Mem.L, Cm.L, Rq.L, Ent.L, ActP.L, Wt.L] <;> rfl) (by intro x hx; first | rfl | (simp at hx; done) | (simp only [List.mem_cons, List.not_mem_nil, or_false] at hx; rcases hx with rfl <;> first | rfl | exact (by first | rfl | assumption | exact Rs.oneC (by first | assumption | exact SH.rsR H (by (repeat first | exact At.here | apply At.there); done) | exact SH.rsO H (by (repeat first | exact At.here | apply At.there); done) | exact (Rs.nil : Rs Non _ _ _)) | (simp only [List.all_cons, List.all_nil, Bool.and_true, Bool.and_eq_true, Row.cells, Gr.L, Rep.L, Mem.L, Cm.L, Rq.L, Ent.L, ActP.L, Wt.L]; (repeat' constructor) <;> first | rfl | assumption | exact Rs.oneC (by first | assumption | exact SH.rsR H (by (repeat first | exact At.here | apply At.there); done) | exact SH.rsO H (by (repeat first | exact At.here | apply At.there); done) | exact (Rs.nil : Rs Non _ _ _)))))) (by rfl) rfl (by decide)
    try dsimp only [replC, List.cons_append, List.nil_append, List.append_nil, agg, cellsL, Value.cells, List.toList_toArray, List.set_cons_zero, List.set_cons_succ, spliceL, List.take_succ_cons, List.take_zero, List.drop_succ_cons, List.drop_zero, List.length_cons, List.length_nil, Nat.reduceAdd, Row.cells, Gr.L, Rep.L, Mem.L, Cm.L, Rq.L, Ent.L, ActP.L, Wt.L] at H
    refine s_append H rfl Try.underlying30 Try.underlying30 Try.type29 rfl (by simp only [upd_get, ev, Nat.reduceEqDiff, ↓reduceIte] <;> rfl) (by simp only [upd_get, ev, Nat.reduceEqDiff, ↓reduceIte] <;> rfl) (by (repeat first | exact At.here | apply At.there); done) (by first | assumption | exact SH.rsR H (by (repeat first | exact At.here | apply At.there); done) | exact SH.rsO H (by (repeat first | exact At.here | apply At.there); done) | exact (Rs.nil : Rs Non _ _ _)) (by rfl) (by rfl) (by first | omega | (simp only [Try.t29, List.length_append, List.length_cons, List.length_nil, List.length_map, maxLen]; omega) | (simp [Try.t29, maxLen]; omega)) (by first | omega | (simp only [Try.t29, List.length_append, List.length_cons, List.length_nil, List.length_map, maxLen]; omega) | (simp [Try.t29, maxLen]; omega)) ?_
    clear H
    intro v5_10 w5_10 g5_10 H hN5_10
    try dsimp only [replC, List.cons_append, List.nil_append, List.append_nil] at H
    refine r_assign rfl ?_
    refine LW.nil ?_
    refine blockE_norm ?_
    refine thenE_norm (h7 _ _ ?_); clear h7; try clear K7
    refine CW.region ?_
    refine r_move rfl ?_
    refine r_add rfl rfl rfl (wr_i64 (by omega) (by omega)) ?_
    refine r_assign rfl ?_
    refine LW.nil ?_
    refine thenE_norm ⟨rfl, ?_⟩
    exact ⟨ws.length - (i + 1), by omega, i + 1, _, _, rfl, by omega, rfl, by rw [hts]; exact SH.sel H [0, 1, 2] (by decide) rfl⟩
  · try simp only [decide_eq_true_eq, decide_eq_false_iff_not, Bool.and_eq_true, Bool.or_eq_true, Bool.and_eq_false_iff, Bool.or_eq_false_iff, Bool.not_eq_true', Bool.not_eq_false', beq_iff_eq, bne_iff_ne, ne_eq, Decidable.not_not] at hc1
    refine CW.exit (thenE_exit (thenE_exit (blockE_hit ?_)))
    refine thenE_norm (h3 _ _ ?_); clear h3; try clear K3
    refine CW.seq (fun K8 h8 => ?_)
    refine CW.region ?_
    refine r_move rfl ?_
    refine r_assign rfl ?_
    refine LW.nil ?_
    refine thenE_norm ?_
    refine cut (K := K8) [2] (fun σ => ?_)
    simp only [setL, keepE, upd_get, ev, Nat.reduceEqDiff, ↓reduceIte]
    refine h8 _ _ ?_; clear h8; try clear K8
    refine CW.ret (ret1 Try.results56 (by simp only [upd_get, ev, Nat.reduceEqDiff, ↓reduceIte]; rfl) ?_)
    obtain rfl : i = ws.length := by omega
    rw [List.take_length] at H
    exact ⟨_, _, rfl, SH.give H (by repeat first | exact List.Sublist.refl _ | exact List.nil_sublist _ | apply List.Sublist.cons_cons | apply List.Sublist.cons) ⟨trivial, trivial⟩⟩
def isW (cl sq : Int) (x : Wt) : Bool := decide (x.req.client = cl) && decide (x.req.seq = sq)
theorem RHas_c {q : Nat} {ws : List Wt} {FN : Nat → Prop} (cl sq : Int) (w : World) (hN : RPoolA q ws FN w) :
    Calls Try.prog 57 #[.pointer (some ⟨q, 0, none⟩), .int .i64 cl, .int .i64 sq] w fun e w' => e = .returned (.bool (ws.any (isW cl sq))) ∧ Ext0 w w' := by
  obtain ⟨hl6, v, gp, hA⟩ := hN
  have H := SH.look hA
  simp only [List.map_cons, List.map_nil, toImm] at H
  refine calls_of_CW Try.func57 rfl Try.ntmps57 (Nat.le_of_ble_eq_true rfl) ?_
  simp only [argE, argFrom, Nat.reduceAdd]
  refine CW.seq (fun K1 h1 => ?_)
  refine CW.region ?_
  refine r_assign rfl ?_
  refine LW.nil ?_
  refine thenE_norm (h1 _ _ ?_); clear h1; try clear K1
  refine CW.seq (fun K2 h2 => ?_)
  refine CW.seq (fun K3 h3 => ?_)
  refine CW.region ?_
  refine r_assign rfl ?_
  refine LW.nil ?_
  refine thenE_norm (h3 _ _ ?_); clear h3; try clear K3
  refine CW.block ?_
  refine CW.loopR [0, 1, 2] [7] (fun m vs w' => ∃ (i : Nat), vs = [.int .i64 i] ∧ i ≤ ws.length ∧ m = ws.length - i ∧ (ws.take i).any (isW cl sq) = false ∧ SH Non Any w w' [.I (fun k => k = q) (fun w => Blk w q 77 [v]), .R (fun b => gp = some b) v ws]) (ws.length) ?_ ?_
  · exact ⟨0, rfl, by omega, by omega, rfl, H⟩
  try clear H
  rintro n1 vs1 wL1 σ ⟨i, rfl, hi, rfl, hno, H⟩
  simp only [setL, keepE, upd_get, ev, Nat.reduceEqDiff, ↓reduceIte]
  refine CW.seq (fun K4 h4 => ?_)
  refine CW.seq (fun K5 h5 => ?_)
  refine CW.region ?_
  refine r_move rfl ?_
  refine r_move rfl ?_
  refine r_nilCheck rfl rfl ?_
  refine r_fieldAddrO rfl Try.underlying77 rfl Try.sizeOf75 (by decide) (show _ = 0 from rfl) rfl ?_
  refine r_load rfl Try.isAgg75 rfl (by first | exact SH.cellB H (by (repeat first | exact At.here | apply At.there); done) (by rfl) | exact SH.cellI H (by (repeat first | exact At.here | apply At.there); done) (by rfl) | assumption) ?_
  first
    | refine r_lenV rfl Try.underlying75 (by simp only [upd_get, ev, Nat.reduceEqDiff, ↓reduceIte] <;> rfl) (by first | assumption | exact SH.rsR H (by (repeat first | exact At.here | apply At.there); done) | exact SH.rsO H (by (repeat first | exact At.here | apply At.there); done) | exact (Rs.nil : Rs Non _ _ _)) ?_
    | refine r_len rfl Try.underlying75 rfl ?_
  refine r_lss rfl rfl rfl ?_
  refine LW.nil ?_
  refine thenE_norm (h5 _ _ ?_); clear h5; try clear K5
  refine CW.cond rfl (fun hc1 => ?_) (fun hc1 => ?_)
  · try simp only [decide_eq_true_eq, decide_eq_false_iff_not, Bool.and_eq_true, Bool.or_eq_true, Bool.and_eq_false_iff, Bool.or_eq_false_iff, Bool.not_eq_true', Bool.not_eq_false', beq_iff_eq, bne_iff_ne, ne_eq, Decidable.not_not] at hc1
    refine CW.skip ?_
    refine thenE_norm (h4 _ _ ?_); clear h4; try clear K4
    refine CW.seq (fun K6 h6 => ?_)
    refine CW.block ?_
    refine CW.seq (fun K7 h7 => ?_)
    obtain ⟨x, hx⟩ := get_of_lt (show i < ws.length by omega)
    refine CW.region ?_
    refine r_move rfl ?_
    refine r_nilCheck rfl rfl ?_
    refine r_fieldAddrO rfl Try.underlying77 rfl Try.sizeOf75 (by decide) (show _ = 0 from rfl) rfl ?_
    refine r_load rfl Try.isAgg75 rfl (by first | exact SH.cellB H (by (repeat first | exact At.here | apply At.there); done) (by rfl) | exact SH.cellI H (by (repeat first | exact At.here | apply At.there); done) (by rfl) | assumption) ?_
    refine r_move rfl ?_
    refine r_indexAddrV rfl Try.underlying75 (by simp only [upd_get, ev, Nat.reduceEqDiff, ↓reduceIte] <;> rfl) rfl (by first | assumption | exact SH.rsR H (by (repeat first | exact At.here | apply At.there); done) | exact SH.rsO H (by (repeat first | exact At.here | apply At.there); done) | exact (Rs.nil : Rs Non _ _ _)) (by exact Try.sizeOf128) (by omega) (by omega) ?_
    refine r_fieldAddrO rfl Try.underlying128 rfl Try.sizeOf29 (by decide) (show _ + 0 = _ from rfl) rfl ?_
    refine r_fieldAddrO rfl Try.underlying29 rfl Try.sizeOf3 (by decide) (show _ + 0 = _ from rfl) rfl ?_
    refine r_load rfl Try.isAgg3 rfl (by first | exact Rs.cell (by first | assumption | exact SH.rsR H (by (repeat first | exact At.here | apply At.there); done) | exact SH.rsO H (by (repeat first | exact At.here | apply At.there); done) | exact (Rs.nil : Rs Non _ _ _)) (by assumption) (by rfl) | exact Rs.cell0 (by first | assumption | exact SH.rsR H (by (repeat first | exact At.here | apply At.there); done) | exact SH.rsO H (by (repeat first | exact At.here | apply At.there); done) | exact (Rs.nil : Rs Non _ _ _)) (by assumption) (by rfl) | assumption) ?_
    refine r_move rfl ?_
    refine r_eql rfl rfl rfl ?_
    refine r_move rfl ?_
    refine' LW.grpAnd (n := 12) (ts := [0, 1, 2, 7]) (d := 40) (tj := 28) rfl (fun hg4_12 => ?_) (fun hg4_12 => ?_) (fun σ => ?_)
    rotate_left
    · simp only [List.take_succ_cons, List.take_zero]
      have hg4_12P := hg4_12
      try simp only [decide_eq_true_eq, decide_eq_false_iff_not, Bool.and_eq_true, Bool.or_eq_true, Bool.and_eq_false_iff, Bool.or_eq_false_iff, Bool.not_eq_true', Bool.not_eq_false', beq_iff_eq, bne_iff_ne] at hg4_12P
      refine LW.want rfl rfl hg4_12 ?_
      refine r_move rfl ?_
      refine LW.want rfl rfl hg4_12 ?_
      refine r_nilCheck rfl rfl ?_
      refine LW.want rfl rfl hg4_12 ?_
      refine r_fieldAddrO rfl Try.underlying77 rfl Try.sizeOf75 (by decide) (show _ = 0 from rfl) rfl ?_
      refine LW.want rfl rfl hg4_12 ?_
      refine r_load rfl Try.isAgg75 rfl (by first | exact SH.cellB H (by (repeat first | exact At.here | apply At.there); done) (by rfl) | exact SH.cellI H (by (repeat first | exact At.here | apply At.there); done) (by rfl) | assumption) ?_
      refine LW.want rfl rfl hg4_12 ?_
      refine r_move rfl ?_
      refine LW.want rfl rfl hg4_12 ?_
      refine r_indexAddrV rfl Try.underlying75 (by simp only [upd_get, ev, Nat.reduceEqDiff, ↓reduceIte] <;> rfl) rfl (by first | assumption | exact SH.rsR H (by (repeat first | exact At.here | apply At.there); done) | exact SH.rsO H (by (repeat first | exact At.here | apply At.there); done) | exact (Rs.nil : Rs Non _ _ _)) (by exact Try.sizeOf128) (by omega) (by omega) ?_
      refine LW.want rfl rfl hg4_12 ?_
      refine r_fieldAddrO rfl Try.underlying128 rfl Try.sizeOf29 (by decide) (show _ + 0 = _ from rfl) rfl ?_
      refine LW.want rfl rfl hg4_12 ?_
      refine r_fieldAddrO rfl Try.underlying29 rfl Try.sizeOf3 (by decide) (show _ + 1 = _ from rfl) rfl ?_
      refine LW.want rfl rfl hg4_12 ?_
      refine r_load rfl Try.isAgg3 rfl (by first | exact Rs.cell (by first | assumption | exact SH.rsR H (by (repeat first | exact At.here | apply At.there); done) | exact SH.rsO H (by (repeat first | exact At.here | apply At.there); done) | exact (Rs.nil : Rs Non _ _ _)) (by assumption) (by rfl) | exact Rs.cell0 (by first | assumption | exact SH.rsR H (by (repeat first | exact At.here | apply At.there); done) | exact SH.rsO H (by (repeat first | exact At.here | apply At.there); done) | exact (Rs.nil : Rs Non _ _ _)) (by assumption) (by rfl) | assumption) ?_
      refine LW.want rfl rfl hg4_12 ?_
      refine r_move rfl ?_
      refine LW.want rfl rfl hg4_12 ?_
      refine r_eql rfl rfl rfl ?_
      refine r_pickT rfl rfl hg4_12 ?_
      refine LW.nil (thenE_norm ⟨rfl, rfl, rfl⟩)
    · simp only [List.take_succ_cons, List.take_zero]
      refine LW.skip rfl (fun _ e => by cases e; decide) rfl hg4_12 ?_
      refine LW.skip rfl (fun _ e => by cases e; decide) rfl hg4_12 ?_
      refine LW.skip rfl (fun _ e => by cases e; decide) rfl hg4_12 ?_
      refine LW.skip rfl (fun _ e => by cases e; decide) rfl hg4_12 ?_
      refine LW.skip rfl (fun _ e => by cases e; decide) rfl hg4_12 ?_
      refine LW.skip rfl (fun _ e => by cases e; decide) rfl hg4_12 ?_
      refine LW.skip rfl (fun _ e => by cases e; decide) rfl hg4_12 ?_
      refine LW.skip rfl (fun _ e => by cases e; decide) rfl hg4_12 ?_
      refine LW.skip rfl (fun _ e => by cases e; decide) rfl hg4_12 ?_
      refine LW.skip rfl (fun _ e => by cases e; decide) rfl hg4_12 ?_
      refine LW.skip rfl (fun _ e => by cases e; decide) rfl hg4_12 ?_
      refine r_pickF rfl rfl hg4_12 ?_
      refine LW.nil (thenE_norm ⟨rfl, rfl, rfl⟩)
    simp only [setL, keepE, upd_get, ev, Nat.reduceEqDiff, ↓reduceIte]; simp only [List.drop_succ_cons, List.drop_zero]
    refine LW.nil ?_
    refine thenE_norm (h7 _ _ ?_); clear h7; try clear K7
    refine CW.cond rfl (fun hc2 => ?_) (fun hc2 => ?_)
    · try simp only [decide_eq_true_eq, decide_eq_false_iff_not, Bool.and_eq_true, Bool.or_eq_true, Bool.and_eq_false_iff, Bool.or_eq_false_iff, Bool.not_eq_true', Bool.not_eq_false', beq_iff_eq, bne_iff_ne, ne_eq, Decidable.not_not] at hc2
      refine CW.seq (fun K8 h8 => ?_)
      refine CW.region ?_
      refine r_assign rfl ?_
      refine LW.nil ?_
      refine thenE_norm (h8 _ _ ?_); clear h8; try clear K8
      refine CW.ret (blockE_ret (thenE_ret (thenE_ret (blockE_ret (thenE_ret (ret1 Try.results57 (by simp only [upd_get, ev, Nat.reduceEqDiff, ↓reduceIte]; rfl) ?_))))))
      exact ⟨by rw [List.any_eq_true.2 ⟨x, List.mem_of_getElem? hx, by rw [isW, decide_eq_true (by omega), decide_eq_true (by omega)]; rfl⟩], H.ext⟩
    · try simp only [decide_eq_true_eq, decide_eq_false_iff_not, Bool.and_eq_true, Bool.or_eq_true, Bool.and_eq_false_iff, Bool.or_eq_false_iff, Bool.not_eq_true', Bool.not_eq_false', beq_iff_eq, bne_iff_ne, ne_eq, Decidable.not_not] at hc2
      refine CW.skip ?_
      refine blockE_norm ?_
      refine thenE_norm (h6 _ _ ?_); clear h6; try clear K6
      refine CW.region ?_
      refine r_move rfl ?_
      refine r_add rfl rfl rfl (wr_i64 (by omega) (by omega)) ?_
      refine r_assign rfl ?_
      refine LW.nil ?_
      refine thenE_norm ⟨rfl, ?_⟩
      exact ⟨ws.length - (i + 1), by omega, i + 1, rfl, by omega, rfl, any_snoc hx hno (by rw [isW, Bool.and_eq_false_iff, decide_eq_false_iff_not, decide_eq_false_iff_not]; omega), H⟩
  · try simp only [decide_eq_true_eq, decide_eq_false_iff_not, Bool.and_eq_true, Bool.or_eq_true, Bool.and_eq_false_iff, Bool.or_eq_false_iff, Bool.not_eq_true', Bool.not_eq_false', beq_iff_eq, bne_iff_ne, ne_eq, Decidable.not_not] at hc1
    refine CW.exit (thenE_exit (thenE_exit (blockE_hit ?_)))
    refine thenE_norm (h2 _ _ ?_); clear h2; try clear K2
    refine CW.seq (fun K9 h9 => ?_)
    refine CW.region ?_
    refine r_assign rfl ?_
    refine LW.nil ?_
    refine thenE_norm ?_
    refine cut (K := K9) [6] (fun σ => ?_)
    simp only [setL, keepE, upd_get, ev, Nat.reduceEqDiff, ↓reduceIte]
    refine h9 _ _ ?_; clear h9; try clear K9
    refine CW.ret (ret1 Try.results57 (by simp only [upd_get, ev, Nat.reduceEqDiff, ↓reduceIte]; rfl) ?_)
    obtain rfl : i = ws.length := by omega
    rw [List.take_length] at hno
    exact ⟨by rw [hno], H.ext⟩
def restW (ws : List Wt) : List Wt := ws.filter fun x => decide (x.slot = 0)
def readyLW (xs : List Wt) : List Rq := (xs.take 3).map Wt.req
def firstW (xs : List Wt) : Int := match xs with | [] => 0 | x :: _ => x.came
def readyW (ws : List Wt) (now wait : Int) : List Rq := if (readyLW (restW ws)).length < 3 ∧ cutM now - firstW (restW ws) < wait then [] else readyLW (restW ws)
theorem readyLW_len (xs : List Wt) : (readyLW xs).length = min xs.length 3 := by simp [readyLW]; omega
theorem rest_snoc {ws : List Wt} {i : Nat} {x : Wt} (hx : ws[i]? = some x) : restW (ws.take (i + 1)) = restW (ws.take i) ++ (if x.slot = 0 then [x] else []) := by
  rw [restW, filter_snoc hx, ← restW]
  by_cases h : x.slot = 0 <;> simp [h]
theorem readyLW_full {xs : List Wt} {x : Wt} (h : (readyLW xs).length = 3) : readyLW (xs ++ [x]) = readyLW xs ∧ firstW (xs ++ [x]) = firstW xs := by
  rw [readyLW_len] at h
  constructor
  · rw [readyLW, readyLW, List.take_append_of_le_length (by omega)]
  · cases xs with
    | nil => simp at h
    | cons a r => rfl
theorem readyLW_more {xs : List Wt} {x : Wt} (h : ¬ (readyLW xs).length = 3) : readyLW (xs ++ [x]) = readyLW xs ++ [x.req] := by
  rw [readyLW_len] at h
  rw [readyLW, List.take_of_length_le (by simp; omega), List.map_append, readyLW, List.take_of_length_le (by omega)]; rfl
theorem firstW_none {xs : List Wt} {x : Wt} (h : (readyLW xs).length = 0) : firstW (xs ++ [x]) = x.came := by
  rw [readyLW_len] at h
  cases xs with
  | nil => rfl
  | cons a r => simp at h
theorem firstW_some {xs : List Wt} {x : Wt} (h : ¬ (readyLW xs).length = 0) : firstW (xs ++ [x]) = firstW xs := by
  rw [readyLW_len] at h
  cases xs with
  | nil => simp at h
  | cons a r => rfl
theorem firstW_le {ws : List Wt} (h : ∀ x ∈ ws, 0 ≤ x.came ∧ x.came ≤ 2305843009213693952) : 0 ≤ firstW (restW ws) ∧ firstW (restW ws) ≤ 2305843009213693952 := by
  cases hw : restW ws with
  | nil => simp [firstW]
  | cons a r =>
    have : a ∈ restW ws := by rw [hw]; simp
    simpa [firstW] using h a (List.mem_filter.1 this).1
set_option maxHeartbeats 4000000 in
theorem RReady_c {q : Nat} {ws : List Wt} {FN : Nat → Prop} (now wait : Int) (w : World) (hN : RPoolA q ws FN w) (hcm : ∀ x ∈ ws, 0 ≤ x.came ∧ x.came ≤ 2305843009213693952) :
    Calls Try.prog 58 #[.pointer (some ⟨q, 0, none⟩), .int .i64 now, .int .i64 wait] w fun e w' => ∃ v g, e = .returned v ∧ SH Non Non w w' [.O 29 v (readyW ws now wait) g] := by
  obtain ⟨hl6, v, gp, hA⟩ := hN
  have H := SH.look hA
  simp only [List.map_cons, List.map_nil, toImm] at H
  refine calls_of_CW Try.func58 rfl Try.ntmps58 (Nat.le_of_ble_eq_true rfl) ?_
  simp only [argE, argFrom, Nat.reduceAdd]
  refine CW.seq (fun K1 h1 => ?_)
  refine CW.region ?_
  refine r_assign rfl ?_
  refine LW.nil ?_
  refine thenE_norm (h1 _ _ ?_); clear h1; try clear K1
  refine CW.seq (fun K2 h2 => ?_)
  refine CW.region ?_
  refine r_assign rfl ?_
  refine LW.nil ?_
  refine thenE_norm (h2 _ _ ?_); clear h2; try clear K2
  refine CW.seq (fun K3 h3 => ?_)
  refine CW.region ?_
  refine r_assign rfl ?_
  refine LW.nil ?_
  refine thenE_norm (h3 _ _ ?_); clear h3; try clear K3
  refine CW.seq (fun K4 h4 => ?_)
  refine CW.seq (fun K5 h5 => ?_)
  refine CW.region ?_
  refine r_assign rfl ?_
  refine LW.nil ?_
  refine thenE_norm (h5 _ _ ?_); clear h5; try clear K5
  refine CW.block ?_
  refine CW.loopR [0, 1, 2] [7, 8, 9] (fun m vs w' => ∃ (i : Nat) (u : Value) (g : Option Nat), vs = [u, .int .i64 (firstW (restW (ws.take i))), .int .i64 i] ∧ i ≤ ws.length ∧ m = ws.length - i ∧ SH Non Any w w' [.I (fun k => k = q) (fun w => Blk w q 77 [v]), .R (fun b => gp = some b) v ws, .O 29 u (readyLW (restW (ws.take i))) g]) (ws.length) ?_ ?_
  · exact ⟨0, .slice none 0 0, none, rfl, by omega, by omega, H.addO (α := Rq) 29⟩
  try clear H
  rintro n1 vs1 wL1 σ ⟨i, u, g, rfl, hi, rfl, H⟩
  simp only [setL, keepE, upd_get, ev, Nat.reduceEqDiff, ↓reduceIte]
  refine CW.seq (fun K6 h6 => ?_)
  refine CW.seq (fun K7 h7 => ?_)
  refine CW.region ?_
  refine r_move rfl ?_
  refine r_move rfl ?_
  refine r_nilCheck rfl rfl ?_
  refine r_fieldAddrO rfl Try.underlying77 rfl Try.sizeOf75 (by decide) (show _ = 0 from rfl) rfl ?_
  refine r_load rfl Try.isAgg75 rfl (by first | exact SH.cellB H (by (repeat first | exact At.here | apply At.there); done) (by rfl) | exact SH.cellI H (by (repeat first | exact At.here | apply At.there); done) (by rfl) | assumption) ?_
  first
    | refine r_lenV rfl Try.underlying75 (by simp only [upd_get, ev, Nat.reduceEqDiff, ↓reduceIte] <;> rfl) (by first | assumption | exact SH.rsR H (by (repeat first | exact At.here | apply At.there); done) | exact SH.rsO H (by (repeat first | exact At.here | apply At.there); done) | exact (Rs.nil : Rs Non _ _ _)) ?_
    | refine r_len rfl Try.underlying75 rfl ?_
  refine r_lss rfl rfl rfl ?_
  refine LW.nil ?_
  refine thenE_norm (h7 _ _ ?_); clear h7; try clear K7
  refine CW.cond rfl (fun hc1 => ?_) (fun hc1 => ?_)
  · try simp only [decide_eq_true_eq, decide_eq_false_iff_not, Bool.and_eq_true, Bool.or_eq_true, Bool.and_eq_false_iff, Bool.or_eq_false_iff, Bool.not_eq_true', Bool.not_eq_false', beq_iff_eq, bne_iff_ne, ne_eq, Decidable.not_not] at hc1
    refine CW.skip ?_
    refine thenE_norm (h6 _ _ ?_); clear h6; try clear K6
    refine CW.seq (fun K8 h8 => ?_)
    refine CW.block ?_
    refine CW.seq (fun K9 h9 => ?_)
    refine CW.seq (fun K10 h10 => ?_)
    obtain ⟨x, hx⟩ := get_of_lt (show i < ws.length by omega)
    have hrs := rest_snoc hx
    have hrl := readyLW_len (restW (ws.take i))
    generalize restW (ws.take i) = xs at *
    refine CW.region ?_
    refine r_move rfl ?_
    refine r_nilCheck rfl rfl ?_
    refine r_fieldAddrO rfl Try.underlying77 rfl Try.sizeOf75 (by decide) (show _ = 0 from rfl) rfl ?_
    refine r_load rfl Try.isAgg75 rfl (by first | exact SH.cellB H (by (repeat first | exact At.here | apply At.there); done) (by rfl) | exact SH.cellI H (by (repeat first | exact At.here | apply At.there); done) (by rfl) | assumption) ?_
    refine r_move rfl ?_
    refine r_indexAddrV rfl Try.underlying75 (by simp only [upd_get, ev, Nat.reduceEqDiff, ↓reduceIte] <;> rfl) rfl (by first | assumption | exact SH.rsR H (by (repeat first | exact At.here | apply At.there); done) | exact SH.rsO H (by (repeat first | exact At.here | apply At.there); done) | exact (Rs.nil : Rs Non _ _ _)) (by exact Try.sizeOf128) (by omega) (by omega) ?_
    refine r_fieldAddrO rfl Try.underlying128 rfl Try.sizeOf3 (by decide) (show _ + 6 = _ from rfl) rfl ?_
    refine r_load rfl Try.isAgg3 rfl (by first | exact Rs.cell (by first | assumption | exact SH.rsR H (by (repeat first | exact At.here | apply At.there); done) | exact SH.rsO H (by (repeat first | exact At.here | apply At.there); done) | exact (Rs.nil : Rs Non _ _ _)) (by assumption) (by rfl) | exact Rs.cell0 (by first | assumption | exact SH.rsR H (by (repeat first | exact At.here | apply At.there); done) | exact SH.rsO H (by (repeat first | exact At.here | apply At.there); done) | exact (Rs.nil : Rs Non _ _ _)) (by assumption) (by rfl) | assumption) ?_
    refine r_neq rfl rfl rfl ?_
    refine r_move rfl ?_
    refine' LW.grpOr (n := 4) (ts := [0, 1, 2, 7, 8, 9]) (d := 32) (tj := 28) rfl (fun hg6_10 => ?_) (fun hg6_10 => ?_) (fun σ => ?_)
    rotate_left
    · simp only [List.take_succ_cons, List.take_zero]
      have hg6_10P := hg6_10
      try simp only [decide_eq_true_eq, decide_eq_false_iff_not, Bool.and_eq_true, Bool.or_eq_true, Bool.and_eq_false_iff, Bool.or_eq_false_iff, Bool.not_eq_true', Bool.not_eq_false', beq_iff_eq, bne_iff_ne] at hg6_10P
      refine LW.want rfl rfl hg6_10 ?_
      refine r_move rfl ?_
      refine LW.want rfl rfl hg6_10 ?_
      first
        | refine r_lenV rfl Try.underlying30 (by simp only [upd_get, ev, Nat.reduceEqDiff, ↓reduceIte] <;> rfl) (by first | assumption | exact SH.rsR H (by (repeat first | exact At.here | apply At.there); done) | exact SH.rsO H (by (repeat first | exact At.here | apply At.there); done) | exact (Rs.nil : Rs Non _ _ _)) ?_
        | refine r_len rfl Try.underlying30 rfl ?_
      refine LW.want rfl rfl hg6_10 ?_
      refine r_eql rfl rfl rfl ?_
      refine r_pickF rfl rfl hg6_10 ?_
      refine LW.nil (thenE_norm ⟨rfl, rfl, rfl⟩)
    · simp only [List.take_succ_cons, List.take_zero]
      refine LW.skip rfl (fun _ e => by cases e; decide) rfl hg6_10 ?_
      refine LW.skip rfl (fun _ e => by cases e; decide) rfl hg6_10 ?_
      refine LW.skip rfl (fun _ e => by cases e; decide) rfl hg6_10 ?_
      refine r_pickT rfl rfl hg6_10 ?_
      refine LW.nil (thenE_norm ⟨rfl, rfl, rfl⟩)
    simp only [setL, keepE, upd_get, ev, Nat.reduceEqDiff, ↓reduceIte]; simp only [List.drop_succ_cons, List.drop_zero]
    refine LW.nil ?_
    refine thenE_norm (h10 _ _ ?_); clear h10; try clear K10
    refine CW.cond rfl (fun hc2 => ?_) (fun hc2 => ?_)
    · try simp only [decide_eq_true_eq, decide_eq_false_iff_not, Bool.and_eq_true, Bool.or_eq_true, Bool.and_eq_false_iff, Bool.or_eq_false_iff, Bool.not_eq_true', Bool.not_eq_false', beq_iff_eq, bne_iff_ne, ne_eq, Decidable.not_not] at hc2
      refine CW.exit (thenE_exit (blockE_hit ?_))
      refine thenE_norm (h8 _ _ ?_); clear h8; try clear K8
      refine CW.region ?_
      refine r_move rfl ?_
      refine r_add rfl rfl rfl (wr_i64 (by omega) (by omega)) ?_
      refine r_assign rfl ?_
      refine LW.nil ?_
      refine thenE_norm ⟨rfl, ?_⟩
      have hsame : readyLW (restW (ws.take (i + 1))) = readyLW xs ∧ firstW (restW (ws.take (i + 1))) = firstW xs := by
        rw [hrs]
        by_cases hm : x.slot = 0
        · rw [if_pos hm]
          exact readyLW_full (by rcases hc2 with h | h; exact absurd hm h; omega)
        · rw [if_neg hm, List.append_nil]; exact ⟨rfl, rfl⟩
      exact ⟨ws.length - (i + 1), by omega, i + 1, _, _, by rw [hsame.2]; rfl, by omega, rfl, by rw [hsame.1]; exact SH.sel H [0, 1, 2] (by decide) rfl⟩
    · try simp only [decide_eq_true_eq, decide_eq_false_iff_not, Bool.and_eq_true, Bool.or_eq_true, Bool.and_eq_false_iff, Bool.or_eq_false_iff, Bool.not_eq_true', Bool.not_eq_false', beq_iff_eq, bne_iff_ne, ne_eq, Decidable.not_not] at hc2
      refine CW.skip ?_
      refine thenE_norm (h9 _ _ ?_); clear h9; try clear K9
      refine CW.seq (fun K11 h11 => ?_)
      refine CW.seq (fun K12 h12 => ?_)
      refine CW.region ?_
      refine r_move rfl ?_
      first
        | refine r_lenV rfl Try.underlying30 (by simp only [upd_get, ev, Nat.reduceEqDiff, ↓reduceIte] <;> rfl) (by first | assumption | exact SH.rsR H (by (repeat first | exact At.here | apply At.there); done) | exact SH.rsO H (by (repeat first | exact At.here | apply At.there); done) | exact (Rs.nil : Rs Non _ _ _)) ?_
        | refine r_len rfl Try.underlying30 rfl ?_
      refine r_eql rfl rfl rfl ?_
      refine LW.nil ?_
      refine thenE_norm (h12 _ _ ?_); clear h12; try clear K12
      refine CW.cond rfl (fun hc3 => ?_) (fun hc3 => ?_)
      · try simp only [decide_eq_true_eq, decide_eq_false_iff_not, Bool.and_eq_true, Bool.or_eq_true, Bool.and_eq_false_iff, Bool.or_eq_false_iff, Bool.not_eq_true', Bool.not_eq_false', beq_iff_eq, bne_iff_ne, ne_eq, Decidable.not_not] at hc3
        refine CW.region ?_
        refine r_move rfl ?_
        refine r_nilCheck rfl rfl ?_
        refine r_fieldAddrO rfl Try.underlying77 rfl Try.sizeOf75 (by decide) (show _ = 0 from rfl) rfl ?_
        refine r_load rfl Try.isAgg75 rfl (by first | exact SH.cellB H (by (repeat first | exact At.here | apply At.there); done) (by rfl) | exact SH.cellI H (by (repeat first | exact At.here | apply At.there); done) (by rfl) | assumption) ?_
        refine r_move rfl ?_
        refine r_indexAddrV rfl Try.underlying75 (by simp only [upd_get, ev, Nat.reduceEqDiff, ↓reduceIte] <;> rfl) rfl (by first | assumption | exact SH.rsR H (by (repeat first | exact At.here | apply At.there); done) | exact SH.rsO H (by (repeat first | exact At.here | apply At.there); done) | exact (Rs.nil : Rs Non _ _ _)) (by exact Try.sizeOf128) (by omega) (by omega) ?_
        refine r_fieldAddrO rfl Try.underlying128 rfl Try.sizeOf3 (by decide) (show _ + 5 = _ from rfl) rfl ?_
        refine r_load rfl Try.isAgg3 rfl (by first | exact Rs.cell (by first | assumption | exact SH.rsR H (by (repeat first | exact At.here | apply At.there); done) | exact SH.rsO H (by (repeat first | exact At.here | apply At.there); done) | exact (Rs.nil : Rs Non _ _ _)) (by assumption) (by rfl) | exact Rs.cell0 (by first | assumption | exact SH.rsR H (by (repeat first | exact At.here | apply At.there); done) | exact SH.rsO H (by (repeat first | exact At.here | apply At.there); done) | exact (Rs.nil : Rs Non _ _ _)) (by assumption) (by rfl) | assumption) ?_
        refine r_assign rfl ?_
        refine LW.nil ?_
        refine thenE_norm ?_
        refine cut (K := K11) [0, 1, 2, 7, 8, 9] (fun σ => ?_)
        simp only [setL, keepE, upd_get, ev, Nat.reduceEqDiff, ↓reduceIte]
        refine h11 _ _ ?_; clear h11; try clear K11
        refine CW.region ?_
        refine r_move rfl ?_
        refine r_move rfl ?_
        refine r_nilCheck rfl rfl ?_
        refine r_fieldAddrO rfl Try.underlying77 rfl Try.sizeOf75 (by decide) (show _ = 0 from rfl) rfl ?_
        refine r_load rfl Try.isAgg75 rfl (by first | exact SH.cellB H (by (repeat first | exact At.here | apply At.there); done) (by rfl) | exact SH.cellI H (by (repeat first | exact At.here | apply At.there); done) (by rfl) | assumption) ?_
        refine r_move rfl ?_
        refine r_indexAddrV rfl Try.underlying75 (by simp only [upd_get, ev, Nat.reduceEqDiff, ↓reduceIte] <;> rfl) rfl (by first | assumption | exact SH.rsR H (by (repeat first | exact At.here | apply At.there); done) | exact SH.rsO H (by (repeat first | exact At.here | apply At.there); done) | exact (Rs.nil : Rs Non _ _ _)) (by exact Try.sizeOf128) (by omega) (by omega) ?_
        refine r_fieldAddrO rfl Try.underlying128 rfl Try.sizeOf29 (by decide) (show _ + 0 = _ from rfl) rfl ?_
        refine r_loadA rfl Try.isAgg29 Try.sizeOf29 rfl (by first | exact Rs.partOf (n := 5) (by first | assumption | exact SH.rsR H (by (repeat first | exact At.here | apply At.there); done) | exact SH.rsO H (by (repeat first | exact At.here | apply At.there); done) | exact (Rs.nil : Rs Non _ _ _)) (by assumption) (by simp only [Row.cells, List.drop_succ_cons, List.drop_zero, List.take_succ_cons, List.take_zero, Gr.L, Rep.L, Mem.L, Cm.L, Rq.L, Ent.L, ActP.L, Wt.L] <;> rfl) | exact Rs.cells0 (by first | assumption | exact SH.rsR H (by (repeat first | exact At.here | apply At.there); done) | exact SH.rsO H (by (repeat first | exact At.here | apply At.there); done) | exact (Rs.nil : Rs Non _ _ _)) (by assumption)) (by rfl) ?_
        refine r_buildSliceA (vs := [_]) rfl Try.underlying30 Try.sizeOf29 Try.zeroValue29 rfl rfl rfl rfl (by simp only [List.map_cons, List.map_nil, List.toList_toArray, numbered, Nat.reduceAdd, upd_get, ev, Nat.reduceEqDiff, ↓reduceIte] <;> rfl) rfl (by intro v hv; simp only [List.mem_cons, List.not_mem_nil, or_false] at hv; rcases hv with rfl <;> rfl) ?_
        intro b9_9 w9_9 hb9_9 hs9_9 hE9_9 hB9_9
        replace H := SH.call H (SH.fromB hE9_9 hb9_9 hs9_9 hB9_9)
        clear hb9_9 hs9_9 hE9_9 hB9_9
        try dsimp only [replC, List.cons_append, List.nil_append, List.append_nil, agg, cellsL, Value.cells, List.toList_toArray, List.set_cons_zero, List.set_cons_succ, spliceL, List.take_succ_cons, List.take_zero, List.drop_succ_cons, List.drop_zero, List.length_cons, List.length_nil, Nat.reduceAdd, Row.cells, Gr.L, Rep.L, Mem.L, Cm.L, Rq.L, Ent.L, ActP.L, Wt.L] at H
        replace H := SH.row (b := b9_9) (xs := ([x.req] : List Rq)) (n := 1) (cap := 1) H (by (repeat first | exact At.here | apply At.there); done) (by simp only [flat, List.flatMap_cons, List.flatMap_nil, cellsL, agg, List.append_nil, List.cons_append, List.nil_append, List.toList_toArray, Row.cells, Gr.L, Rep.L, Mem.L, Cm.L, Rq.L, Ent.L, ActP.L, Wt.L] <;> rfl) (by intro x hx; first | rfl | (simp at hx; done) | (simp only [List.mem_cons, List.not_mem_nil, or_false] at hx; rcases hx with rfl <;> first | rfl | exact (by first | rfl | assumption | exact Rs.oneC (by first | assumption | exact SH.rsR H (by (repeat first | exact At.here | apply At.there); done) | exact SH.rsO H (by (repeat first | exact At.here | apply At.there); done) | exact (Rs.nil : Rs Non _ _ _)) | (simp only [List.all_cons, List.all_nil, Bool.and_true, Bool.and_eq_true, Row.cells, Gr.L, Rep.L, Mem.L, Cm.L, Rq.L, Ent.L, ActP.L, Wt.L]; (repeat' constructor) <;> first | rfl | assumption | exact Rs.oneC (by first | assumption | exact SH.rsR H (by (repeat first | exact At.here | apply At.there); done) | exact SH.rsO H (by (repeat first | exact At.here | apply At.there); done) | exact (Rs.nil : Rs Non _ _ _)))))) (by rfl) rfl (by decide)
        try dsimp only [replC, List.cons_append, List.nil_append, List.append_nil, agg, cellsL, Value.cells, List.toList_toArray, List.set_cons_zero, List.set_cons_succ, spliceL, List.take_succ_cons, List.take_zero, List.drop_succ_cons, List.drop_zero, List.length_cons, List.length_nil, Nat.reduceAdd, Row.cells, Gr.L, Rep.L, Mem.L, Cm.L, Rq.L, Ent.L, ActP.L, Wt.L] at H
        refine s_append H rfl Try.underlying30 Try.underlying30 Try.type29 rfl (by simp only [upd_get, ev, Nat.reduceEqDiff, ↓reduceIte] <;> rfl) (by simp only [upd_get, ev, Nat.reduceEqDiff, ↓reduceIte] <;> rfl) (by (repeat first | exact At.here | apply At.there); done) (by first | assumption | exact SH.rsR H (by (repeat first | exact At.here | apply At.there); done) | exact SH.rsO H (by (repeat first | exact At.here | apply At.there); done) | exact (Rs.nil : Rs Non _ _ _)) (by rfl) (by rfl) (by first | omega | (simp only [Try.t29, List.length_append, List.length_cons, List.length_nil, List.length_map, maxLen]; omega) | (simp [Try.t29, maxLen]; omega)) (by first | omega | (simp only [Try.t29, List.length_append, List.length_cons, List.length_nil, List.length_map, maxLen]; omega) | (simp [Try.t29, maxLen]; omega)) ?_
        clear H
        intro v9_10 w9_10 g9_10 H hN9_10
        try dsimp only [replC, List.cons_append, List.nil_append, List.append_nil] at H
        refine r_assign rfl ?_
        refine LW.nil ?_
        refine blockE_norm ?_
        refine thenE_norm (h8 _ _ ?_); clear h8; try clear K8
        refine CW.region ?_
        refine r_move rfl ?_
        refine r_add rfl rfl rfl (wr_i64 (by omega) (by omega)) ?_
        refine r_assign rfl ?_
        refine LW.nil ?_
        refine thenE_norm ⟨rfl, ?_⟩
        have hm : x.slot = 0 := hc2.1
        have hn3 : ¬ (readyLW xs).length = 3 := by have := hc2.2; omega
        rw [if_pos hm] at hrs
        first
          | exact ⟨ws.length - (i + 1), by omega, i + 1, _, _, by rw [hrs, firstW_none (by omega)]; rfl, by omega, rfl, by rw [hrs, readyLW_more hn3]; exact SH.sel H [0, 1, 2] (by decide) rfl⟩
          | exact ⟨ws.length - (i + 1), by omega, i + 1, _, _, by rw [hrs, firstW_some (by omega)]; rfl, by omega, rfl, by rw [hrs, readyLW_more hn3]; exact SH.sel H [0, 1, 2] (by decide) rfl⟩
      · try simp only [decide_eq_true_eq, decide_eq_false_iff_not, Bool.and_eq_true, Bool.or_eq_true, Bool.and_eq_false_iff, Bool.or_eq_false_iff, Bool.not_eq_true', Bool.not_eq_false', beq_iff_eq, bne_iff_ne, ne_eq, Decidable.not_not] at hc3
        refine CW.skip ?_
        refine thenE_norm (h11 _ _ ?_); clear h11; try clear K11
        refine CW.region ?_
        refine r_move rfl ?_
        refine r_move rfl ?_
        refine r_nilCheck rfl rfl ?_
        refine r_fieldAddrO rfl Try.underlying77 rfl Try.sizeOf75 (by decide) (show _ = 0 from rfl) rfl ?_
        refine r_load rfl Try.isAgg75 rfl (by first | exact SH.cellB H (by (repeat first | exact At.here | apply At.there); done) (by rfl) | exact SH.cellI H (by (repeat first | exact At.here | apply At.there); done) (by rfl) | assumption) ?_
        refine r_move rfl ?_
        refine r_indexAddrV rfl Try.underlying75 (by simp only [upd_get, ev, Nat.reduceEqDiff, ↓reduceIte] <;> rfl) rfl (by first | assumption | exact SH.rsR H (by (repeat first | exact At.here | apply At.there); done) | exact SH.rsO H (by (repeat first | exact At.here | apply At.there); done) | exact (Rs.nil : Rs Non _ _ _)) (by exact Try.sizeOf128) (by omega) (by omega) ?_
        refine r_fieldAddrO rfl Try.underlying128 rfl Try.sizeOf29 (by decide) (show _ + 0 = _ from rfl) rfl ?_
        refine r_loadA rfl Try.isAgg29 Try.sizeOf29 rfl (by first | exact Rs.partOf (n := 5) (by first | assumption | exact SH.rsR H (by (repeat first | exact At.here | apply At.there); done) | exact SH.rsO H (by (repeat first | exact At.here | apply At.there); done) | exact (Rs.nil : Rs Non _ _ _)) (by assumption) (by simp only [Row.cells, List.drop_succ_cons, List.drop_zero, List.take_succ_cons, List.take_zero, Gr.L, Rep.L, Mem.L, Cm.L, Rq.L, Ent.L, ActP.L, Wt.L] <;> rfl) | exact Rs.cells0 (by first | assumption | exact SH.rsR H (by (repeat first | exact At.here | apply At.there); done) | exact SH.rsO H (by (repeat first | exact At.here | apply At.there); done) | exact (Rs.nil : Rs Non _ _ _)) (by assumption)) (by rfl) ?_
        refine r_buildSliceA (vs := [_]) rfl Try.underlying30 Try.sizeOf29 Try.zeroValue29 rfl rfl rfl rfl (by simp only [List.map_cons, List.map_nil, List.toList_toArray, numbered, Nat.reduceAdd, upd_get, ev, Nat.reduceEqDiff, ↓reduceIte] <;> rfl) rfl (by intro v hv; simp only [List.mem_cons, List.not_mem_nil, or_false] at hv; rcases hv with rfl <;> rfl) ?_
        intro b9_9 w9_9 hb9_9 hs9_9 hE9_9 hB9_9
        replace H := SH.call H (SH.fromB hE9_9 hb9_9 hs9_9 hB9_9)
        clear hb9_9 hs9_9 hE9_9 hB9_9
        try dsimp only [replC, List.cons_append, List.nil_append, List.append_nil, agg, cellsL, Value.cells, List.toList_toArray, List.set_cons_zero, List.set_cons_succ, spliceL, List.take_succ_cons, List.take_zero, List.drop_succ_cons, List.drop_zero, List.length_cons, List.length_nil, Nat.reduceAdd, Row.cells, Gr.L, Rep.L, Mem.L, Cm.L, Rq.L, Ent.L, ActP.L, Wt.L] at H
        replace H := SH.row (b := b9_9) (xs := ([x.req] : List Rq)) (n := 1) (cap := 1) H (by (repeat first | exact At.here | apply At.there); done) (by simp only [flat, List.flatMap_cons, List.flatMap_nil, cellsL, agg, List.append_nil, List.cons_append, List.nil_append, List.toList_toArray, Row.cells, Gr.L, Rep.L, Mem.L, Cm.L, Rq.L, Ent.L, ActP.L, Wt.L] <;> rfl) (by intro x hx; first | rfl | (simp at hx; done) | (simp only [List.mem_cons, List.not_mem_nil, or_false] at hx; rcases hx with rfl <;> first | rfl | exact (by first | rfl | assumption | exact Rs.oneC (by first | assumption | exact SH.rsR H (by (repeat first | exact At.here | apply At.there); done) | exact SH.rsO H (by (repeat first | exact At.here | apply At.there); done) | exact (Rs.nil : Rs Non _ _ _)) | (simp only [List.all_cons, List.all_nil, Bool.and_true, Bool.and_eq_true, Row.cells, Gr.L, Rep.L, Mem.L, Cm.L, Rq.L, Ent.L, ActP.L, Wt.L]; (repeat' constructor) <;> first | rfl | assumption | exact Rs.oneC (by first | assumption | exact SH.rsR H (by (repeat first | exact At.here | apply At.there); done) | exact SH.rsO H (by (repeat first | exact At.here | apply At.there); done) | exact (Rs.nil : Rs Non _ _ _)))))) (by rfl) rfl (by decide)
        try dsimp only [replC, List.cons_append, List.nil_append, List.append_nil, agg, cellsL, Value.cells, List.toList_toArray, List.set_cons_zero, List.set_cons_succ, spliceL, List.take_succ_cons, List.take_zero, List.drop_succ_cons, List.drop_zero, List.length_cons, List.length_nil, Nat.reduceAdd, Row.cells, Gr.L, Rep.L, Mem.L, Cm.L, Rq.L, Ent.L, ActP.L, Wt.L] at H
        refine s_append H rfl Try.underlying30 Try.underlying30 Try.type29 rfl (by simp only [upd_get, ev, Nat.reduceEqDiff, ↓reduceIte] <;> rfl) (by simp only [upd_get, ev, Nat.reduceEqDiff, ↓reduceIte] <;> rfl) (by (repeat first | exact At.here | apply At.there); done) (by first | assumption | exact SH.rsR H (by (repeat first | exact At.here | apply At.there); done) | exact SH.rsO H (by (repeat first | exact At.here | apply At.there); done) | exact (Rs.nil : Rs Non _ _ _)) (by rfl) (by rfl) (by first | omega | (simp only [Try.t29, List.length_append, List.length_cons, List.length_nil, List.length_map, maxLen]; omega) | (simp [Try.t29, maxLen]; omega)) (by first | omega | (simp only [Try.t29, List.length_append, List.length_cons, List.length_nil, List.length_map, maxLen]; omega) | (simp [Try.t29, maxLen]; omega)) ?_
        clear H
        intro v9_10 w9_10 g9_10 H hN9_10
        try dsimp only [replC, List.cons_append, List.nil_append, List.append_nil] at H
        refine r_assign rfl ?_
        refine LW.nil ?_
        refine blockE_norm ?_
        refine thenE_norm (h8 _ _ ?_); clear h8; try clear K8
        refine CW.region ?_
        refine r_move rfl ?_
        refine r_add rfl rfl rfl (wr_i64 (by omega) (by omega)) ?_
        refine r_assign rfl ?_
        refine LW.nil ?_
        refine thenE_norm ⟨rfl, ?_⟩
        have hm : x.slot = 0 := hc2.1
        have hn3 : ¬ (readyLW xs).length = 3 := by have := hc2.2; omega
        rw [if_pos hm] at hrs
        first
          | exact ⟨ws.length - (i + 1), by omega, i + 1, _, _, by rw [hrs, firstW_none (by omega)]; rfl, by omega, rfl, by rw [hrs, readyLW_more hn3]; exact SH.sel H [0, 1, 2] (by decide) rfl⟩
          | exact ⟨ws.length - (i + 1), by omega, i + 1, _, _, by rw [hrs, firstW_some (by omega)]; rfl, by omega, rfl, by rw [hrs, readyLW_more hn3]; exact SH.sel H [0, 1, 2] (by decide) rfl⟩
  · try simp only [decide_eq_true_eq, decide_eq_false_iff_not, Bool.and_eq_true, Bool.or_eq_true, Bool.and_eq_false_iff, Bool.or_eq_false_iff, Bool.not_eq_true', Bool.not_eq_false', beq_iff_eq, bne_iff_ne, ne_eq, Decidable.not_not] at hc1
    refine CW.exit (thenE_exit (thenE_exit (blockE_hit ?_)))
    refine thenE_norm (h4 _ _ ?_); clear h4; try clear K4
    refine CW.seq (fun K13 h13 => ?_)
    refine CW.seq (fun K14 h14 => ?_)
    obtain rfl : i = ws.length := by omega
    rw [List.take_length] at H ⊢
    have hfl := firstW_le hcm
    have hcl := cutM_le now
    refine CW.region ?_
    refine r_move rfl ?_
    first
      | refine r_lenV rfl Try.underlying30 (by simp only [upd_get, ev, Nat.reduceEqDiff, ↓reduceIte] <;> rfl) (by first | assumption | exact SH.rsR H (by (repeat first | exact At.here | apply At.there); done) | exact SH.rsO H (by (repeat first | exact At.here | apply At.there); done) | exact (Rs.nil : Rs Non _ _ _)) ?_
      | refine r_len rfl Try.underlying30 rfl ?_
    refine r_lss rfl rfl rfl ?_
    refine r_move rfl ?_
    refine' LW.grpAnd (n := 7) (ts := [7]) (d := 65) (tj := 58) rfl (fun hg10_4 => ?_) (fun hg10_4 => ?_) (fun σ => ?_)
    rotate_left
    · simp only [List.take_succ_cons, List.take_zero]
      have hg10_4P := hg10_4
      try simp only [decide_eq_true_eq, decide_eq_false_iff_not, Bool.and_eq_true, Bool.or_eq_true, Bool.and_eq_false_iff, Bool.or_eq_false_iff, Bool.not_eq_true', Bool.not_eq_false', beq_iff_eq, bne_iff_ne] at hg10_4P
      refine LW.want rfl rfl hg10_4 ?_
      refine r_move rfl ?_
      refine LW.want rfl rfl hg10_4 ?_
      refine r_call rfl Try.call92 (by simp only [List.map_cons, List.map_nil, List.map_toArray, List.toList_toArray, upd_get, ev, Nat.reduceEqDiff, ↓reduceIte] <;> rfl) (Near_c _ _) ?_
      rintro _ _ ⟨rfl, rfl⟩
      refine ⟨_, rfl, ?_⟩
      refine LW.want rfl rfl hg10_4 ?_
      refine r_move rfl ?_
      refine LW.want rfl rfl hg10_4 ?_
      refine r_sub rfl rfl rfl (wr_i64 (by omega) (by omega)) ?_
      refine LW.want rfl rfl hg10_4 ?_
      refine r_move rfl ?_
      refine LW.want rfl rfl hg10_4 ?_
      refine r_lss rfl rfl rfl ?_
      refine r_pickT rfl rfl hg10_4 ?_
      refine LW.nil (thenE_norm ⟨rfl, rfl, rfl⟩)
    · simp only [List.take_succ_cons, List.take_zero]
      refine LW.skip rfl (fun _ e => by cases e; decide) rfl hg10_4 ?_
      refine LW.skip rfl (fun _ e => by cases e; decide) rfl hg10_4 ?_
      refine LW.skip rfl (fun _ e => by cases e; decide) rfl hg10_4 ?_
      refine LW.skip rfl (fun _ e => by cases e; decide) rfl hg10_4 ?_
      refine LW.skip rfl (fun _ e => by cases e; decide) rfl hg10_4 ?_
      refine LW.skip rfl (fun _ e => by cases e; decide) rfl hg10_4 ?_
      refine r_pickF rfl rfl hg10_4 ?_
      refine LW.nil (thenE_norm ⟨rfl, rfl, rfl⟩)
    simp only [setL, keepE, upd_get, ev, Nat.reduceEqDiff, ↓reduceIte]; simp only [List.drop_succ_cons, List.drop_zero]
    refine LW.nil ?_
    refine thenE_norm (h14 _ _ ?_); clear h14; try clear K14
    refine CW.cond rfl (fun hc4 => ?_) (fun hc4 => ?_)
    · try simp only [decide_eq_true_eq, decide_eq_false_iff_not, Bool.and_eq_true, Bool.or_eq_true, Bool.and_eq_false_iff, Bool.or_eq_false_iff, Bool.not_eq_true', Bool.not_eq_false', beq_iff_eq, bne_iff_ne, ne_eq, Decidable.not_not] at hc4
      refine CW.seq (fun K15 h15 => ?_)
      refine CW.region ?_
      refine r_assign rfl ?_
      refine LW.nil ?_
      refine thenE_norm (h15 _ _ ?_); clear h15; try clear K15
      refine CW.ret (thenE_ret (ret1 Try.results58 (by simp only [upd_get, ev, Nat.reduceEqDiff, ↓reduceIte]; rfl) ?_))
      rw [readyW, if_pos (by omega)]
      exact ⟨_, none, rfl, SH.give (H.addO (α := Rq) 29) (by repeat first | exact List.Sublist.refl _ | exact List.nil_sublist _ | apply List.Sublist.cons_cons | apply List.Sublist.cons) ⟨trivial, trivial⟩⟩
    · try simp only [decide_eq_true_eq, decide_eq_false_iff_not, Bool.and_eq_true, Bool.or_eq_true, Bool.and_eq_false_iff, Bool.or_eq_false_iff, Bool.not_eq_true', Bool.not_eq_false', beq_iff_eq, bne_iff_ne, ne_eq, Decidable.not_not] at hc4
      refine CW.skip ?_
      refine thenE_norm (h13 _ _ ?_); clear h13; try clear K13
      refine CW.seq (fun K16 h16 => ?_)
      refine CW.region ?_
      refine r_move rfl ?_
      refine r_assign rfl ?_
      refine LW.nil ?_
      refine thenE_norm (h16 _ _ ?_); clear h16; try clear K16
      refine CW.ret (ret1 Try.results58 (by simp only [upd_get, ev, Nat.reduceEqDiff, ↓reduceIte]; rfl) ?_)
      rw [readyW, if_neg (by omega)]
      exact ⟨_, _, rfl, SH.give H (by repeat first | exact List.Sublist.refl _ | exact List.nil_sublist _ | apply List.Sublist.cons_cons | apply List.Sublist.cons) ⟨trivial, trivial⟩⟩
end Go.Proofs.Ytlfbofnfhhddbaa
