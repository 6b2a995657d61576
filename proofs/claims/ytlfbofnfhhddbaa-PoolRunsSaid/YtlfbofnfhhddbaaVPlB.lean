/-
  The walks of layer 19's functions: a queue of requests.
-/
import Derived.Test.YtlfbofnfhhddbaaVPlA
namespace Go.Proofs.Ytlfbofnfhhddbaa
set_option linter.unusedSimpArgs false
set_option linter.unusedVariables false
set_option maxRecDepth 20000
open Go.V Go.RowKit Go.ChangeShapes Go.WideShapes

structure Cm where
  kind : Int
  session : Int
  name : ByteArray
deriving DecidableEq
def Cm.L (a : Cm) : List Value := [.int .i64 a.kind, .int .i64 a.session, .string a.name]
instance : Row Cm := ⟨3, Cm.L, ⟨0, 0, ByteArray.mk #[]⟩, fun _ => rfl, rfl⟩
def Cm.Good (w : World) (a : Cm) : Prop := I64 a.kind ∧ I64 a.session ∧ a.name.size ≤ 9223372036854775807
theorem Cm.opens : Opens Try.prog (α := Cm) 27 Cm.Good := fun H enc w base spare held fuel cs x hl h => by
  obtain ⟨u0, u1, u2, rfl⟩ := list3 hl
  obtain ⟨m0, hf0⟩ := open_fields Try.underlying27 h
  obtain ⟨y0, t0⟩ := hf0 0 _ 1 rfl (by kernel_rfl)
  obtain ⟨a0, e0, -, w0⟩ := DataW.trod_int Try.underlying3 t0
  obtain rfl : u0 = _ := by simpa using e0
  obtain ⟨y1, t1⟩ := hf0 1 _ 1 rfl (by kernel_rfl)
  obtain ⟨a1, e1, -, w1⟩ := DataW.trod_int Try.underlying3 t1
  obtain rfl : u1 = _ := by simpa using e1
  obtain ⟨y2, t2⟩ := hf0 2 _ 1 rfl (by kernel_rfl)
  obtain ⟨a2, e2, -, w2⟩ := DataW.trod_string Try.underlying9 t2
  obtain rfl : u2 = _ := by simpa using e2
  exact ⟨⟨a0, a1, a2⟩, rfl, (by first | rfl | (simp only [Row.cells, Cm.L]; repeat (first | rfl | refine Bool.and_eq_true_iff.2 ⟨(by first | rfl | assumption), ?_⟩))), ⟨i64_wf w0, i64_wf w1, (by simpa [maxLen] using w2)⟩⟩
structure Rq where
  client : Int
  seq : Int
  cmd : Cm
deriving DecidableEq
def Rq.L (a : Rq) : List Value := [.int .i64 a.client, .int .i64 a.seq, .int .i64 a.cmd.kind, .int .i64 a.cmd.session, .string a.cmd.name]
instance : Row Rq := ⟨5, Rq.L, ⟨0, 0, ⟨0, 0, ByteArray.mk #[]⟩⟩, fun _ => rfl, rfl⟩
def Rq.Good (w : World) (a : Rq) : Prop := I64 a.client ∧ I64 a.seq ∧ Cm.Good w a.cmd
theorem Rq.opens : Opens Try.prog (α := Rq) 29 Rq.Good := fun H enc w base spare held fuel cs x hl h => by
  obtain ⟨u0, u1, u2, u3, u4, rfl⟩ := list5 hl
  obtain ⟨m0, hf0⟩ := open_fields Try.underlying29 h
  obtain ⟨y0, t0⟩ := hf0 0 _ 1 rfl (by kernel_rfl)
  obtain ⟨a0, e0, -, w0⟩ := DataW.trod_int Try.underlying3 t0
  obtain rfl : u0 = _ := by simpa using e0
  obtain ⟨y1, t1⟩ := hf0 1 _ 1 rfl (by kernel_rfl)
  obtain ⟨a1, e1, -, w1⟩ := DataW.trod_int Try.underlying3 t1
  obtain rfl : u1 = _ := by simpa using e1
  obtain ⟨y2, t2⟩ := hf0 2 _ 3 rfl (by kernel_rfl)
  obtain ⟨a2, e2, o2, g2⟩ := Cm.opens H enc w base spare held _ _ _ rfl t2
  have q2 : [u2, u3, u4] = Row.cells a2 := e2.symm
  simp only [Row.cells, Cm.L, List.cons.injEq, and_true] at q2
  obtain ⟨rfl, rfl, rfl⟩ := q2
  exact ⟨⟨a0, a1, a2⟩, rfl, (by first | rfl | (simp only [Row.cells, Rq.L, Cm.L]; repeat (first | rfl | refine Bool.and_eq_true_iff.2 ⟨(by first | rfl | assumption), ?_⟩))), ⟨i64_wf w0, i64_wf w1, g2⟩⟩
structure Ent where
  req : Rq
  came : Int
  marked : Bool
  slot : Int
  told : Bool
  view : Int
deriving DecidableEq
def Ent.L (a : Ent) : List Value := [.int .i64 a.req.client, .int .i64 a.req.seq, .int .i64 a.req.cmd.kind, .int .i64 a.req.cmd.session, .string a.req.cmd.name, .int .i64 a.came, .bool a.marked, .int .i64 a.slot, .bool a.told, .int .i64 a.view]
instance : Row Ent := ⟨10, Ent.L, ⟨⟨0, 0, ⟨0, 0, ByteArray.mk #[]⟩⟩, 0, false, 0, false, 0⟩, fun _ => rfl, rfl⟩
def Ent.Good (w : World) (a : Ent) : Prop := Rq.Good w a.req ∧ I64 a.came ∧ True ∧ I64 a.slot ∧ True ∧ I64 a.view
theorem Ent.opens : Opens Try.prog (α := Ent) 108 Ent.Good := fun H enc w base spare held fuel cs x hl h => by
  obtain ⟨u0, u1, u2, u3, u4, u5, u6, u7, u8, u9, rfl⟩ := list10 hl
  obtain ⟨m0, hf0⟩ := open_fields Try.underlying108 h
  obtain ⟨y0, t0⟩ := hf0 0 _ 5 rfl (by kernel_rfl)
  obtain ⟨a0, e0, o0, g0⟩ := Rq.opens H enc w base spare held _ _ _ rfl t0
  have q0 : [u0, u1, u2, u3, u4] = Row.cells a0 := e0.symm
  simp only [Row.cells, Rq.L, List.cons.injEq, and_true] at q0
  obtain ⟨rfl, rfl, rfl, rfl, rfl⟩ := q0
  obtain ⟨y1, t1⟩ := hf0 1 _ 1 rfl (by kernel_rfl)
  obtain ⟨a1, e1, -, w1⟩ := DataW.trod_int Try.underlying3 t1
  obtain rfl : u5 = _ := by simpa using e1
  obtain ⟨y2, t2⟩ := hf0 2 _ 1 rfl (by kernel_rfl)
  obtain ⟨a2, e2, -⟩ := DataW.trod_bool Try.underlying4 t2
  obtain rfl : u6 = _ := by simpa using e2
  obtain ⟨y3, t3⟩ := hf0 3 _ 1 rfl (by kernel_rfl)
  obtain ⟨a3, e3, -, w3⟩ := DataW.trod_int Try.underlying3 t3
  obtain rfl : u7 = _ := by simpa using e3
  obtain ⟨y4, t4⟩ := hf0 4 _ 1 rfl (by kernel_rfl)
  obtain ⟨a4, e4, -⟩ := DataW.trod_bool Try.underlying4 t4
  obtain rfl : u8 = _ := by simpa using e4
  obtain ⟨y5, t5⟩ := hf0 5 _ 1 rfl (by kernel_rfl)
  obtain ⟨a5, e5, -, w5⟩ := DataW.trod_int Try.underlying3 t5
  obtain rfl : u9 = _ := by simpa using e5
  exact ⟨⟨a0, a1, a2, a3, a4, a5⟩, rfl, (by first | rfl | (simp only [Row.cells, Ent.L, Rq.L]; repeat (first | rfl | refine Bool.and_eq_true_iff.2 ⟨(by first | rfl | assumption), ?_⟩))), ⟨g0, i64_wf w1, trivial, i64_wf w3, trivial, i64_wf w5⟩⟩
def mayRq (r : Rq) : Bool := mayReqM r.client r.seq r.cmd.kind r.cmd.session r.cmd.name.data.toList
theorem MayRq_c (r : Rq) (w : World) (hs : r.cmd.name.size ≤ 9223372036854775807) :
    Calls Try.prog 70 #[agg r] w fun e w' => e = .returned (.bool (mayRq r)) ∧ Ext0 w w' := MayReq_c _ _ _ _ _ w hs
def cutM (n : Int) : Int := min (max n 0) 2305843009213693952
theorem cutM_le (n : Int) : 0 ≤ cutM n ∧ cutM n ≤ 2305843009213693952 := by unfold cutM; omega
def goodQ (es : List Ent) : Prop := es.length ≤ 6 ∧ ∀ e ∈ es, 0 ≤ e.came ∧ e.came ≤ 2305843009213693952
/-- The program's queue. -/
def PoolA (p : Nat) (es : List Ent) (FN : Nat → Prop) (w : World) : Prop :=
  goodQ es ∧ ∃ v g, ObjA FN w [.B p 104 [v], .O 108 v es g]
theorem pool_st {p : Nat} {es : List Ent} {FN : Nat → Prop} : Ch.St FN (PoolA p es FN) := fun V w w' h e hd => by
  obtain ⟨hs, v, g, h⟩ := h
  exact ⟨hs, v, g, h.up e hd⟩
theorem PoolA.mkL {U G : Nat → Prop} {w0 w : World} {L : List Ch} {p : Nat} {v : Value} {es : List Ent} {g : Option Nat} (hs : goodQ es)
    (H : SH U G w0 w ([.B p 104 [v], .O 108 v es g] ++ L)) : ∃ FN, SH U G w0 w (.P FN (PoolA p es FN) :: L) :=
  ⟨_, SH.pack (A := PoolA p es (foot [.B p 104 [v], .O 108 v es g])) H ⟨trivial, trivial, trivial⟩ pool_st (fun h => ⟨hs, v, g, h⟩)⟩
theorem PoolA.mk {U G : Nat → Prop} {w0 w : World} {p : Nat} {v : Value} {es : List Ent} {g : Option Nat} (hs : goodQ es)
    (H : SH U G w0 w [.B p 104 [v], .O 108 v es g]) : ∃ FN, SH U Non w0 w [.P FN (PoolA p es FN)] :=
  have ⟨FN, K⟩ := PoolA.mkL (L := []) hs H
  ⟨FN, SH.give (M := [.P _ _]) K (List.Sublist.refl _) ⟨trivial, trivial⟩⟩

set_option maxRecDepth 20000 in
theorem IxfE_c {F : Nat → Prop} {v fv : Value} {xs : List Ent} {S : World → Prop} {p : Ent → Bool} {D : Ent → Prop} (w : World) (hv : Rs F w v xs) (hp : PredF Try.prog S fv agg p D) (hD : ∀ x ∈ xs, D x) (hS : ∀ w', Ext0 w w' → S w') :
    Calls Try.prog 71 #[v, fv] w fun e w' => e = .returned (.int .i64 (findM p xs)) ∧ Ext0 w w' := by
  have h63 := hv.len63
  have H := (SH.start w).arg hv
  obtain ⟨f, fs, cs, rfl, hcf, hcall⟩ := hp
  refine calls_of_CW Try.func71 rfl Try.ntmps71 (Nat.le_of_ble_eq_true rfl) ?_
  simp only [argE, argFrom, Nat.reduceAdd]
  refine CW.seq (fun K1 h1 => ?_)
  refine CW.region ?_
  refine r_assign rfl ?_
  refine LW.nil ?_
  refine thenE_norm (h1 _ _ ?_); clear h1; try clear K1
  refine CW.seq (fun K2 h2 => ?_)
  refine CW.seq (fun K3 h3 => ?_)
  refine CW.region ?_
  refine r_move rfl ?_
  first
    | refine r_lenV rfl Try.underlying102 (by simp only [upd_get, ev, Nat.reduceEqDiff, ↓reduceIte] <;> rfl) (by first | assumption | exact SH.rsR H (by (repeat first | exact At.here | apply At.there); done) | exact SH.rsO H (by (repeat first | exact At.here | apply At.there); done) | exact (Rs.nil : Rs Non _ _ _)) ?_
    | refine r_len rfl Try.underlying102 rfl ?_
  refine r_move rfl ?_
  refine LW.nil ?_
  refine thenE_norm (h3 _ _ ?_); clear h3; try clear K3
  refine CW.block ?_
  refine CW.loopR [0, 1, 7] [8] (fun m vs w' => ∃ i : Nat, vs = [.int .i64 i] ∧ i ≤ xs.length ∧ m = xs.length - i ∧ (xs.take i).any p = false ∧ SH Non Any w w' [.R (Old w) v xs]) (xs.length) ?_ ?_
  · exact ⟨0, rfl, by omega, by omega, by simp, H⟩
  try clear H
  rintro n1 vs1 wL1 σ ⟨i, rfl, hi, rfl, hno, H⟩
  simp only [setL, keepE, upd_get, ev, Nat.reduceEqDiff, ↓reduceIte]
  refine CW.seq (fun K4 h4 => ?_)
  refine CW.region ?_
  refine r_lss rfl rfl rfl ?_
  refine LW.nil ?_
  refine thenE_norm (h4 _ _ ?_); clear h4; try clear K4
  refine CW.seq (fun K5 h5 => ?_)
  refine CW.cond rfl (fun hc1 => ?_) (fun hc1 => ?_)
  · try simp only [decide_eq_true_eq, decide_eq_false_iff_not, Bool.and_eq_true, Bool.or_eq_true, Bool.and_eq_false_iff, Bool.or_eq_false_iff, Bool.not_eq_true', Bool.not_eq_false', beq_iff_eq, bne_iff_ne, ne_eq, Decidable.not_not] at hc1
    refine CW.skip ?_
    refine thenE_norm (h5 _ _ ?_); clear h5; try clear K5
    refine CW.seq (fun K6 h6 => ?_)
    refine CW.block ?_
    refine CW.seq (fun K7 h7 => ?_)
    refine CW.region ?_
    refine r_move rfl ?_
    refine r_assign rfl ?_
    refine LW.nil ?_
    refine thenE_norm (h7 _ _ ?_); clear h7; try clear K7
    refine CW.seq (fun K8 h8 => ?_)
    obtain ⟨x, hx⟩ := get_of_lt (show i < xs.length by omega)
    refine CW.region ?_
    refine r_move rfl ?_
    refine r_move rfl ?_
    refine r_move rfl ?_
    refine r_indexAddrV rfl Try.underlying102 (by simp only [upd_get, ev, Nat.reduceEqDiff, ↓reduceIte] <;> rfl) rfl (by first | assumption | exact SH.rsR H (by (repeat first | exact At.here | apply At.there); done) | exact SH.rsO H (by (repeat first | exact At.here | apply At.there); done) | exact (Rs.nil : Rs Non _ _ _)) (by exact Try.sizeOf108) (by omega) (by omega) ?_
    refine r_loadA rfl Try.isAgg108 Try.sizeOf108 rfl (by first | exact Rs.cells0 (by first | assumption | exact SH.rsR H (by (repeat first | exact At.here | apply At.there); done) | exact SH.rsO H (by (repeat first | exact At.here | apply At.there); done) | exact (Rs.nil : Rs Non _ _ _)) (by assumption)) (by rfl) ?_
    refine r_callV rfl rfl hcf (by simp only [List.map_cons, List.map_nil, List.map_toArray, List.toList_toArray, upd_get, ev, Nat.reduceEqDiff, ↓reduceIte] <;> rfl) rfl (hcall x _ (hD x (List.mem_of_getElem? hx)) (hS _ H.ext)) ?_
    rintro _ w4_5 ⟨rfl, X⟩
    refine ⟨_, rfl, ?_⟩
    replace H := SH.same H X
    clear X
    refine LW.nil ?_
    refine thenE_norm ?_
    refine cut (K := K8) [0, 1, 5, 7, 8, 16] (fun σ => ?_)
    simp only [setL, keepE, upd_get, ev, Nat.reduceEqDiff, ↓reduceIte]
    refine h8 _ _ ?_; clear h8; try clear K8
    refine CW.cond rfl (fun hc2 => ?_) (fun hc2 => ?_)
    · try simp only [decide_eq_true_eq, decide_eq_false_iff_not, Bool.and_eq_true, Bool.or_eq_true, Bool.and_eq_false_iff, Bool.or_eq_false_iff, Bool.not_eq_true', Bool.not_eq_false', beq_iff_eq, bne_iff_ne, ne_eq, Decidable.not_not] at hc2
      refine CW.seq (fun K9 h9 => ?_)
      refine CW.region ?_
      refine r_move rfl ?_
      refine r_assign rfl ?_
      refine LW.nil ?_
      refine thenE_norm (h9 _ _ ?_); clear h9; try clear K9
      refine CW.ret (blockE_ret (thenE_ret (thenE_ret (blockE_ret (thenE_ret (ret1 Try.results71 (by simp only [upd_get, ev, Nat.reduceEqDiff, ↓reduceIte]; rfl) ?_))))))
      exact ⟨by rw [find_at hx hno hc2], H.ext⟩
    · try simp only [decide_eq_true_eq, decide_eq_false_iff_not, Bool.and_eq_true, Bool.or_eq_true, Bool.and_eq_false_iff, Bool.or_eq_false_iff, Bool.not_eq_true', Bool.not_eq_false', beq_iff_eq, bne_iff_ne, ne_eq, Decidable.not_not] at hc2
      refine CW.skip ?_
      refine blockE_norm ?_
      refine thenE_norm (h6 _ _ ?_); clear h6; try clear K6
      refine CW.region ?_
      refine r_add rfl rfl rfl (wr_i64 (by omega) (by omega)) ?_
      refine r_move rfl ?_
      refine LW.nil ?_
      refine thenE_norm ⟨rfl, ?_⟩
      exact ⟨_, by omega, i + 1, rfl, by omega, rfl, any_snoc hx hno (by simpa using hc2), H⟩
  · try simp only [decide_eq_true_eq, decide_eq_false_iff_not, Bool.and_eq_true, Bool.or_eq_true, Bool.and_eq_false_iff, Bool.or_eq_false_iff, Bool.not_eq_true', Bool.not_eq_false', beq_iff_eq, bne_iff_ne, ne_eq, Decidable.not_not] at hc1
    refine CW.exit (thenE_exit (thenE_exit (blockE_hit ?_)))
    refine thenE_norm (h2 _ _ ?_); clear h2; try clear K2
    refine CW.seq (fun K10 h10 => ?_)
    refine CW.region ?_
    refine r_assign rfl ?_
    refine LW.nil ?_
    refine thenE_norm (h10 _ _ ?_); clear h10; try clear K10
    refine CW.ret (ret1 Try.results71 (by simp only [upd_get, ev, Nat.reduceEqDiff, ↓reduceIte]; rfl) ?_)
    obtain rfl : i = xs.length := by omega
    rw [List.take_length] at hno
    exact ⟨by rw [findM, hno]; rfl, H.ext⟩
set_option maxRecDepth 20000 in
theorem DelE_c {v : Value} {xs : List Ent} {g : Option Nat} (i j : Nat) (w : World) (hv : Ow 108 w v xs g) (hij : i < j) (hj : j ≤ xs.length) :
    Calls Try.prog 73 #[v, .int .i64 i, .int .i64 j] w fun e w' => ∃ v', e = .returned v' ∧ SH (fun b => g = some b) Non w w' [.O 108 v' (xs.take i ++ xs.drop j) g] := by
  have h63 := hv.rs.len63
  have H := SH.own1 hv
  obtain ⟨b, cap, cur, rfl, rfl, hnc, hcm, hcl, hct, hone, H⟩ := H.toB At.here (by rintro rfl; simp at hj; omega)
  try dsimp only [replC, List.append_nil, List.cons_append, List.nil_append] at H
  have hc63 : cap ≤ 9223372036854775807 := by simpa [maxLen] using hcm
  have hfl := flat_len xs
  have hs1 : i * Row.sz Ent ≤ xs.length * Row.sz Ent := Nat.mul_le_mul_right _ (by omega)
  have hs2 : xs.length * Row.sz Ent ≤ cap * Row.sz Ent := Nat.mul_le_mul_right _ hnc
  have hs3 : (i + (xs.length - j)) * Row.sz Ent ≤ xs.length * Row.sz Ent := Nat.mul_le_mul_right _ (by omega)
  have hs4 : (i + (xs.length - j)) * Row.sz Ent + (xs.length - (i + (xs.length - j))) * Row.sz Ent = xs.length * Row.sz Ent := by rw [← Nat.add_mul]; congr 1; omega
  have hdl : ((flat xs).drop (j * Row.sz Ent)).length = (xs.length - j) * Row.sz Ent := by rw [List.length_drop, hfl, ← Nat.sub_mul]
  have hs5 : i * Row.sz Ent + (xs.length - j) * Row.sz Ent = (i + (xs.length - j)) * Row.sz Ent := (Nat.add_mul _ _ _).symm
  refine calls_of_CW Try.func73 rfl Try.ntmps73 (Nat.le_of_ble_eq_true rfl) ?_
  simp only [argE, argFrom, Nat.reduceAdd]
  refine CW.seq (fun K1 h1 => ?_)
  refine CW.region ?_
  refine r_assign rfl ?_
  refine LW.nil ?_
  refine thenE_norm (h1 _ _ ?_); clear h1; try clear K1
  refine CW.seq (fun K2 h2 => ?_)
  refine CW.region ?_
  refine r_move rfl ?_
  refine r_move rfl ?_
  refine r_move rfl ?_
  refine r_move rfl ?_
  first
    | refine r_lenV rfl Try.underlying102 (by simp only [upd_get, ev, Nat.reduceEqDiff, ↓reduceIte] <;> rfl) (by first | assumption | exact SH.rsR H (by (repeat first | exact At.here | apply At.there); done) | exact SH.rsO H (by (repeat first | exact At.here | apply At.there); done) | exact Rs.toH (by first | assumption | exact SH.rsR H (by (repeat first | exact At.here | apply At.there); done) | exact SH.rsO H (by (repeat first | exact At.here | apply At.there); done)) (by omega) | exact Rs.toL (by first | assumption | exact SH.rsR H (by (repeat first | exact At.here | apply At.there); done) | exact SH.rsO H (by (repeat first | exact At.here | apply At.there); done)) (by omega) | exact Rs.toLH (by first | assumption | exact SH.rsR H (by (repeat first | exact At.here | apply At.there); done) | exact SH.rsO H (by (repeat first | exact At.here | apply At.there); done)) (by omega) (by omega) | exact (Rs.nil : Rs Non _ _ _)) ?_
    | refine r_len rfl Try.underlying102 rfl ?_
  refine r_sliceLHMc rfl Try.underlying102 Try.sizeOf108 rfl rfl rfl rfl (by omega) (by omega) (by omega) (by omega) ?_
  intro v1
  refine LW.nil ?_
  refine thenE_norm (h2 _ _ ?_); clear h2; try clear K2
  refine CW.seq (fun K3 h3 => ?_)
  refine CW.seq (fun K4 h4 => ?_)
  refine CW.region ?_
  refine r_move rfl ?_
  refine r_move rfl ?_
  refine r_eql rfl rfl rfl ?_
  refine LW.nil ?_
  refine thenE_norm ?_
  refine cut (K := K4) [0, 1, 2, 16] (fun σ => ?_)
  simp only [setL, keepE, upd_get, ev, Nat.reduceEqDiff, ↓reduceIte]
  refine h4 _ _ ?_; clear h4; try clear K4
  refine CW.condF rfl (by first | rfl | (simp only [decide_eq_true_eq, decide_eq_false_iff_not, Bool.and_eq_true, Bool.or_eq_true, Bool.and_eq_false_iff, Bool.or_eq_false_iff, Bool.not_eq_true', Bool.not_eq_false', beq_iff_eq, bne_iff_ne]; omega) | simp_all) ?_
  refine CW.skip ?_
  refine thenE_norm (h3 _ _ ?_); clear h3; try clear K3
  refine CW.seq (fun K5 h5 => ?_)
  refine CW.region ?_
  refine r_move rfl ?_
  first
    | refine r_lenV rfl Try.underlying102 (by simp only [upd_get, ev, Nat.reduceEqDiff, ↓reduceIte] <;> rfl) (by first | assumption | exact SH.rsR H (by (repeat first | exact At.here | apply At.there); done) | exact SH.rsO H (by (repeat first | exact At.here | apply At.there); done) | exact Rs.toH (by first | assumption | exact SH.rsR H (by (repeat first | exact At.here | apply At.there); done) | exact SH.rsO H (by (repeat first | exact At.here | apply At.there); done)) (by omega) | exact Rs.toL (by first | assumption | exact SH.rsR H (by (repeat first | exact At.here | apply At.there); done) | exact SH.rsO H (by (repeat first | exact At.here | apply At.there); done)) (by omega) | exact Rs.toLH (by first | assumption | exact SH.rsR H (by (repeat first | exact At.here | apply At.there); done) | exact SH.rsO H (by (repeat first | exact At.here | apply At.there); done)) (by omega) (by omega) | exact (Rs.nil : Rs Non _ _ _)) ?_
    | refine r_len rfl Try.underlying102 rfl ?_
  refine r_assign rfl ?_
  refine LW.nil ?_
  refine thenE_norm (h5 _ _ ?_); clear h5; try clear K5
  refine CW.seq (fun K6 h6 => ?_)
  refine CW.drawP [] [] H (by dsimp only [pickC, nthC] <;> rfl) (by repeat first | exact List.Sublist.refl _ | exact List.nil_sublist _ | apply List.Sublist.cons_cons | apply List.Sublist.cons) (by kernel_rfl) rfl ?_
  clear H
  intro w5d H
  refine DL.take (i := 0) [] rfl (by kernel_rfl) (by kernel_rfl) (by kernel_rfl) (by kernel_rfl) rfl rfl (fun u H => x_move ) (SH.sub H (by repeat first | exact List.Sublist.refl _ | exact List.nil_sublist _ | apply List.Sublist.cons_cons | apply List.Sublist.cons)) ?_
  refine DL.take (i := 1) [] rfl (by kernel_rfl) (by kernel_rfl) (by kernel_rfl) (by kernel_rfl) rfl rfl (fun u H => x_move ) (SH.sub H (by repeat first | exact List.Sublist.refl _ | exact List.nil_sublist _ | apply List.Sublist.cons_cons | apply List.Sublist.cons)) ?_
  refine DL.take (i := 2) [] rfl (by kernel_rfl) (by kernel_rfl) (by kernel_rfl) (by kernel_rfl) rfl rfl (fun u H => x_sliceHc Try.underlying102 Try.sizeOf108 rfl rfl (by omega) (by omega)) (SH.sub H (by repeat first | exact List.Sublist.refl _ | exact List.nil_sublist _ | apply List.Sublist.cons_cons | apply List.Sublist.cons)) ?_
  refine DL.take (i := 3) [] rfl (by kernel_rfl) (by kernel_rfl) (by kernel_rfl) (by kernel_rfl) rfl rfl (fun u H => x_move ) (SH.sub H (by repeat first | exact List.Sublist.refl _ | exact List.nil_sublist _ | apply List.Sublist.cons_cons | apply List.Sublist.cons)) ?_
  refine DL.take (i := 4) [] rfl (by kernel_rfl) (by kernel_rfl) (by kernel_rfl) (by kernel_rfl) rfl rfl (fun u H => x_move ) (SH.sub H (by repeat first | exact List.Sublist.refl _ | exact List.nil_sublist _ | apply List.Sublist.cons_cons | apply List.Sublist.cons)) ?_
  refine DL.take (i := 5) [] rfl (by kernel_rfl) (by kernel_rfl) (by kernel_rfl) (by kernel_rfl) rfl rfl (fun u H => x_sliceLc Try.underlying102 Try.sizeOf108 rfl rfl (by omega) (by omega)) (SH.sub H (by repeat first | exact List.Sublist.refl _ | exact List.nil_sublist _ | apply List.Sublist.cons_cons | apply List.Sublist.cons)) ?_
  refine DL.one (i := 6) (by kernel_rfl) rfl rfl ?_
  refine s_appendB H rfl Try.underlying102 Try.underlying102 Try.type108 rfl rfl rfl (by (repeat first | exact At.here | apply At.there); done) (Blk.tail (H.blk At.here) hct hcl hnc hcm hone.flat hj) (by show ((i : Int)).toNat + _ ≤ cap; omega) hcm hcl ?_
  clear H
  intro w5 H
  try dsimp only [replC, List.append_nil, List.nil_append] at H
  have hcl5 : (spliceL cur (i * Row.sz Ent) ((flat xs).drop (j * Row.sz Ent))).length = cap * Row.sz Ent := by rw [splice_len (by rw [hdl, hcl]; omega), hcl]
  refine LW.nil (thenE_norm ⟨fun _ => (SH.sub H (by repeat first | exact List.Sublist.refl _ | exact List.nil_sublist _ | apply List.Sublist.cons_cons | apply List.Sublist.cons)), ?_⟩)
  refine DL.take (i := 7) [] rfl (by kernel_rfl) (by kernel_rfl) (by kernel_rfl) (by kernel_rfl) rfl rfl (fun u H => x_assign ) (SH.sub H (by repeat first | exact List.Sublist.refl _ | exact List.nil_sublist _ | apply List.Sublist.cons_cons | apply List.Sublist.cons)) ?_
  refine DL.done (by kernel_rfl) ?_
  refine thenE_norm ?_
  refine cut (K := K6) [0, 7] (fun σ => ?_)
  simp only [setL, keepE, upd_get, ev, Nat.reduceEqDiff, ↓reduceIte]
  refine h6 _ _ ?_; clear h6; try clear K6
  refine CW.seq (fun K7 h7 => ?_)
  refine CW.region ?_
  refine r_move rfl ?_
  refine r_move rfl ?_
  first
    | refine r_lenV rfl Try.underlying102 (by simp only [upd_get, ev, Nat.reduceEqDiff, ↓reduceIte] <;> rfl) (by first | assumption | exact SH.rsR H (by (repeat first | exact At.here | apply At.there); done) | exact SH.rsO H (by (repeat first | exact At.here | apply At.there); done) | exact Rs.toH (by first | assumption | exact SH.rsR H (by (repeat first | exact At.here | apply At.there); done) | exact SH.rsO H (by (repeat first | exact At.here | apply At.there); done)) (by omega) | exact Rs.toL (by first | assumption | exact SH.rsR H (by (repeat first | exact At.here | apply At.there); done) | exact SH.rsO H (by (repeat first | exact At.here | apply At.there); done)) (by omega) | exact Rs.toLH (by first | assumption | exact SH.rsR H (by (repeat first | exact At.here | apply At.there); done) | exact SH.rsO H (by (repeat first | exact At.here | apply At.there); done)) (by omega) (by omega) | exact (Rs.nil : Rs Non _ _ _)) ?_
    | refine r_len rfl Try.underlying102 rfl ?_
  refine r_move rfl ?_
  refine r_sliceLHp rfl Try.underlying102 Try.sizeOf108 rfl rfl rfl (by omega) (by omega) (by omega) (by omega) ?_
  refine s_clearB H Try.underlying102 Try.zeroValue108 rfl rfl rfl rfl (by omega) (by (repeat first | exact At.here | apply At.there); done) (by show (i + (xs.length - j)) * Row.sz Ent + (xs.length - (i + (xs.length - j))) * Row.sz Ent ≤ _; erw [hcl5]; omega) ?_
  clear H
  intro w6 zs hzs H
  try dsimp only [replC, List.append_nil, List.nil_append] at H
  refine LW.nil ?_
  refine thenE_norm (h7 _ _ ?_); clear h7; try clear K7
  refine CW.seq (fun K8 h8 => ?_)
  refine CW.region ?_
  refine r_move rfl ?_
  refine r_assign rfl ?_
  refine LW.nil ?_
  refine thenE_norm ?_
  refine cut (K := K8) [6] (fun σ => ?_)
  simp only [setL, keepE, upd_get, ev, Nat.reduceEqDiff, ↓reduceIte]
  refine h8 _ _ ?_; clear h8; try clear K8
  refine CW.ret (ret1 Try.results73 (by simp only [upd_get, ev, Nat.reduceEqDiff, ↓reduceIte]; rfl) ?_)
  have hout := SH.ofB (cap := cap) H At.here (xs.take i ++ xs.drop j) (i + (xs.length - j)) (by simp; omega) ((hone.take i).app (hone.drop j)) (by
    erw [splice_len (by erw [hcl5, hzs]; show (i + (xs.length - j)) * Row.sz Ent + (xs.length - (i + (xs.length - j))) * Row.sz Ent ≤ _; omega)]
    exact hcl5) (by omega) hcm (by
    refine (splice_front (by erw [hcl5]; omega)).trans ?_
    have h1 := splice_upto (cur := cur) (vs := (flat xs).drop (j * Row.sz Ent)) (o := i * Row.sz Ent) (by omega)
    rw [hdl, hs5] at h1
    refine h1.trans ?_
    rw [flat_app, flat_take, flat_drop, ← hct, List.take_take, Nat.min_eq_left hs1])
  exact ⟨_, rfl, hout⟩

theorem PoolNew_c (w : World) : Calls Try.prog 18 #[] w fun e w' => ∃ p FN, e = .returned (.pointer (some ⟨p, 0, none⟩)) ∧ SH Non Non w w' [.P FN (PoolA p [] FN)] := by
  have H := SH.start (U := Non) (G := Any) w
  refine calls_of_CW Try.func18 rfl Try.ntmps18 (Nat.le_of_ble_eq_true rfl) ?_
  simp only [argE, argFrom, Nat.reduceAdd]
  refine CW.seq (fun K1 h1 => ?_)
  refine CW.region ?_
  refine r_assign rfl ?_
  refine LW.nil ?_
  refine thenE_norm (h1 _ _ ?_); clear h1; try clear K1
  refine CW.seq (fun K2 h2 => ?_)
  refine CW.region ?_
  refine r_buildQ rfl Try.underlying104 Try.zeroValue104 rfl (pl := [(0, 1)]) (by intro w; simp [go_sem]) (qs := []) (cs := [.slice none 0 0]) trivial rfl ?_
  refine s_box H rfl (by simp only [upd_get, ev, Nat.reduceEqDiff, ↓reduceIte] <;> rfl) rfl ?_
  clear H
  intro b1_1 w1_1 H
  try dsimp only [replC, List.cons_append, List.nil_append, List.append_nil, agg, cellsL, Value.cells, List.toList_toArray, List.set_cons_zero, List.set_cons_succ, spliceL, List.take_succ_cons, List.take_zero, List.drop_succ_cons, List.drop_zero, List.length_cons, List.length_nil, Nat.reduceAdd, Row.cells, Cm.L, Rq.L, Ent.L] at H
  refine r_assign rfl ?_
  refine LW.nil ?_
  refine thenE_norm (h2 _ _ ?_); clear h2; try clear K2
  refine CW.ret (ret1 Try.results18 (by simp only [upd_get, ev, Nat.reduceEqDiff, ↓reduceIte]; rfl) ?_)
  have H2 := H.addO (α := Ent) 108
  obtain ⟨FN, H4⟩ := PoolA.mk ⟨by simp, fun m h => by cases h⟩ H2
  exact ⟨_, _, rfl, H4⟩
theorem cut_c (n : Int) (w : World) : Calls Try.prog 74 #[.int .i64 n] w fun e w' => e = .returned (.int .i64 (cutM n)) ∧ w = w' := by
  refine calls_of_CW Try.func74 rfl Try.ntmps74 (Nat.le_of_ble_eq_true rfl) ?_
  simp only [argE, argFrom, Nat.reduceAdd]
  refine CW.seq (fun K1 h1 => ?_)
  refine CW.region ?_
  refine r_assign rfl ?_
  refine LW.nil ?_
  refine thenE_norm (h1 _ _ ?_); clear h1; try clear K1
  refine CW.seq (fun K2 h2 => ?_)
  refine CW.region ?_
  refine r_move rfl ?_
  refine r_max rfl (by simp only [upd_get, ev, Nat.reduceEqDiff, ↓reduceIte] <;> rfl) (by simp only [upd_get, ev, Nat.reduceEqDiff, ↓reduceIte] <;> rfl) ?_
  refine r_min rfl (by simp only [upd_get, ev, Nat.reduceEqDiff, ↓reduceIte] <;> rfl) (by simp only [upd_get, ev, Nat.reduceEqDiff, ↓reduceIte] <;> rfl) ?_
  refine r_assign rfl ?_
  refine LW.nil ?_
  refine thenE_norm (h2 _ _ ?_); clear h2; try clear K2
  refine CW.ret (ret1 Try.results74 (by simp only [upd_get, ev, Nat.reduceEqDiff, ↓reduceIte]; rfl) ?_)
  exact ⟨rfl, rfl⟩
theorem Near_c (n : Int) (w : World) : Calls Try.prog 92 #[.int .i64 n] w fun e w' => e = .returned (.int .i64 (cutM n)) ∧ w = w' := by
  refine calls_of_CW Try.func92 rfl Try.ntmps92 (Nat.le_of_ble_eq_true rfl) ?_
  simp only [argE, argFrom, Nat.reduceAdd]
  refine CW.seq (fun K1 h1 => ?_)
  refine CW.region ?_
  refine r_assign rfl ?_
  refine LW.nil ?_
  refine thenE_norm (h1 _ _ ?_); clear h1; try clear K1
  refine CW.seq (fun K2 h2 => ?_)
  refine CW.region ?_
  refine r_move rfl ?_
  refine r_max rfl (by simp only [upd_get, ev, Nat.reduceEqDiff, ↓reduceIte] <;> rfl) (by simp only [upd_get, ev, Nat.reduceEqDiff, ↓reduceIte] <;> rfl) ?_
  refine r_min rfl (by simp only [upd_get, ev, Nat.reduceEqDiff, ↓reduceIte] <;> rfl) (by simp only [upd_get, ev, Nat.reduceEqDiff, ↓reduceIte] <;> rfl) ?_
  refine r_assign rfl ?_
  refine LW.nil ?_
  refine thenE_norm (h2 _ _ ?_); clear h2; try clear K2
  refine CW.ret (ret1 Try.results92 (by simp only [upd_get, ev, Nat.reduceEqDiff, ↓reduceIte]; rfl) ?_)
  exact ⟨rfl, rfl⟩
theorem at1_c {b1 b2 : Nat} {E1 E2 : TypeId} (e : Ent) (cl sq : Int) (w : World) (hb1 : Blk w b1 E1 [.int .i64 cl]) (hb2 : Blk w b2 E2 [.int .i64 sq]) :
    Calls Try.prog 100 #[agg e, .pointer (some ⟨b1, 0, none⟩), .pointer (some ⟨b2, 0, none⟩)] w fun r w' => r = .returned (.bool (decide (e.req.client = cl) && decide (e.req.seq = sq))) ∧ Ext0 w w' := by
  have H := SH.start (U := Non) (G := Any) w
  refine calls_of_CW Try.func100 rfl Try.ntmps100 (Nat.le_of_ble_eq_true rfl) ?_
  simp only [argE, argFrom, Nat.reduceAdd]
  refine CW.seq (fun K1 h1 => ?_)
  refine CW.region ?_
  refine s_box H rfl (by simp only [upd_get, ev, Nat.reduceEqDiff, ↓reduceIte] <;> rfl) rfl ?_
  clear H
  intro b0_0 w0_0 H
  try dsimp only [replC, List.cons_append, List.nil_append, List.append_nil, agg, cellsL, Value.cells, List.toList_toArray, List.set_cons_zero, List.set_cons_succ, spliceL, List.take_succ_cons, List.take_zero, List.drop_succ_cons, List.drop_zero, List.length_cons, List.length_nil, Nat.reduceAdd, Row.cells, Cm.L, Rq.L, Ent.L] at H
  refine r_assign rfl ?_
  refine LW.nil ?_
  refine thenE_norm (h1 _ _ ?_); clear h1; try clear K1
  refine CW.seq (fun K2 h2 => ?_)
  refine CW.region ?_
  refine r_fieldAddrO rfl Try.underlying108 rfl Try.sizeOf29 (by decide) (show _ = 0 from rfl) rfl ?_
  refine r_fieldAddrO rfl Try.underlying29 rfl Try.sizeOf3 (by decide) (show _ = 0 from rfl) rfl ?_
  refine r_load rfl Try.isAgg3 rfl (by first | exact SH.cellB H (by (repeat first | exact At.here | apply At.there); done) (by rfl) | assumption) ?_
  refine r_load rfl Try.isAgg3 rfl ((hb1.up0 (SH.ext H)).cell (o := 0) rfl) ?_
  refine r_eql rfl rfl rfl ?_
  refine r_move rfl ?_
  refine' LW.grpAnd (n := 6) (ts := []) (d := 16) (tj := 10) rfl (fun hg1_6 => ?_) (fun hg1_6 => ?_) (fun σ => ?_)
  rotate_left
  · simp only [List.take_succ_cons, List.take_zero]
    have hg1_6P := hg1_6
    try simp only [decide_eq_true_eq, decide_eq_false_iff_not, Bool.and_eq_true, Bool.or_eq_true, Bool.and_eq_false_iff, Bool.or_eq_false_iff, Bool.not_eq_true', Bool.not_eq_false', beq_iff_eq, bne_iff_ne] at hg1_6P
    refine LW.want rfl rfl hg1_6 ?_
    refine r_fieldAddrO rfl Try.underlying108 rfl Try.sizeOf29 (by decide) (show _ = 0 from rfl) rfl ?_
    refine LW.want rfl rfl hg1_6 ?_
    refine r_fieldAddrO rfl Try.underlying29 rfl Try.sizeOf3 (by decide) (show _ = 1 from rfl) rfl ?_
    refine LW.want rfl rfl hg1_6 ?_
    refine r_load rfl Try.isAgg3 rfl (by first | exact SH.cellB H (by (repeat first | exact At.here | apply At.there); done) (by rfl) | assumption) ?_
    refine LW.want rfl rfl hg1_6 ?_
    refine r_load rfl Try.isAgg3 rfl ((hb2.up0 (SH.ext H)).cell (o := 0) rfl) ?_
    refine LW.want rfl rfl hg1_6 ?_
    refine r_eql rfl rfl rfl ?_
    refine r_pickT rfl rfl hg1_6 ?_
    refine LW.nil (thenE_norm ⟨rfl, rfl, rfl⟩)
  · simp only [List.take_succ_cons, List.take_zero]
    refine LW.skip rfl (fun _ e => by cases e; decide) rfl hg1_6 ?_
    refine LW.skip rfl (fun _ e => by cases e; decide) rfl hg1_6 ?_
    refine LW.skip rfl (fun _ e => by cases e; decide) rfl hg1_6 ?_
    refine LW.skip rfl (fun _ e => by cases e; decide) rfl hg1_6 ?_
    refine LW.skip rfl (fun _ e => by cases e; decide) rfl hg1_6 ?_
    refine r_pickF rfl rfl hg1_6 ?_
    refine LW.nil (thenE_norm ⟨rfl, rfl, rfl⟩)
  simp only [setL, keepE, upd_get, ev, Nat.reduceEqDiff, ↓reduceIte]; simp only [List.drop_succ_cons, List.drop_zero]
  refine r_assign rfl ?_
  refine LW.nil ?_
  refine thenE_norm (h2 _ _ ?_); clear h2; try clear K2
  refine CW.ret (ret1 Try.results100 (by simp only [upd_get, ev, Nat.reduceEqDiff, ↓reduceIte]; rfl) ?_)
  exact ⟨rfl, H.ext⟩
end Go.Proofs.Ytlfbofnfhhddbaa
