/-
  The walks of layer 4's laws: CmdRow.
-/
import Derived.Test.YtgcmafgcigipdaaVObj
import Derived.Test.YtgcmafgcigipdaaVStr
import Derived.Test.YtgcmafgcigipdaaVMTurn
import Derived.Test.YtgcmafgcigipdaaVReqA
import Derived.Test.YtgcmafgcigipdaaVLaw4A
import Derived.Test.YtgcmafgcigipdaaVLaw4E
namespace Go.Proofs.Ytgcmafgcigipdaa
set_option linter.unusedSimpArgs false
set_option linter.unusedVariables false
set_option maxRecDepth 20000
open Go.V Go.RowKit Go.ChangeShapes Go.WideShapes

structure Cm where
  kind : Int
  session : Int
  name : ByteArray
deriving DecidableEq
def Cm.L (a : Cm) : List Value := [.int .i64 a.kind, .int .i64 a.session, .string a.name]
instance : Row Cm := ⟨3, Cm.L, ⟨0, 0, ByteArray.mk #[]⟩, fun _ => rfl, rfl⟩
def Cm.Good (w : World) (a : Cm) : Prop := I64 a.kind ∧ I64 a.session ∧ a.name.size ≤ 9223372036854775807
theorem Cm.opens : Opens Try.prog (α := Cm) 42 Cm.Good := fun H enc w base spare held fuel cs x hl h => by
  obtain ⟨u0, u1, u2, rfl⟩ := list3 hl
  obtain ⟨m0, hf0⟩ := open_fields Try.underlying42 h
  obtain ⟨y0, t0⟩ := hf0 0 _ 1 rfl (by kernel_rfl)
  obtain ⟨a0, e0, -, w0⟩ := DataW.trod_int Try.underlying3 t0
  obtain rfl : u0 = _ := by simpa using e0
  obtain ⟨y1, t1⟩ := hf0 1 _ 1 rfl (by kernel_rfl)
  obtain ⟨a1, e1, -, w1⟩ := DataW.trod_int Try.underlying3 t1
  obtain rfl : u1 = _ := by simpa using e1
  obtain ⟨y2, t2⟩ := hf0 2 _ 1 rfl (by kernel_rfl)
  obtain ⟨a2, e2, -, w2⟩ := DataW.trod_string Try.underlying9 t2
  obtain rfl : u2 = _ := by simpa using e2
  exact ⟨⟨a0, a1, a2⟩, rfl, (by first | rfl | (simp only [Row.cells, Cm.L]; repeat (first | rfl | refine Bool.and_eq_true_iff.2 ⟨(by first | rfl | assumption), ?_⟩))), ⟨i64_wf w0, i64_wf w1, (by simpa [maxLen] using w2)⟩⟩
structure Rq where
  client : Int
  seq : Int
  cmd : Cm
deriving DecidableEq
def Rq.L (a : Rq) : List Value := [.int .i64 a.client, .int .i64 a.seq, .int .i64 a.cmd.kind, .int .i64 a.cmd.session, .string a.cmd.name]
instance : Row Rq := ⟨5, Rq.L, ⟨0, 0, ⟨0, 0, ByteArray.mk #[]⟩⟩, fun _ => rfl, rfl⟩
def Rq.Good (w : World) (a : Rq) : Prop := I64 a.client ∧ I64 a.seq ∧ Cm.Good w a.cmd
theorem Rq.opens : Opens Try.prog (α := Rq) 53 Rq.Good := fun H enc w base spare held fuel cs x hl h => by
  obtain ⟨u0, u1, u2, u3, u4, rfl⟩ := list5 hl
  obtain ⟨m0, hf0⟩ := open_fields Try.underlying53 h
  obtain ⟨y0, t0⟩ := hf0 0 _ 1 rfl (by kernel_rfl)
  obtain ⟨a0, e0, -, w0⟩ := DataW.trod_int Try.underlying3 t0
  obtain rfl : u0 = _ := by simpa using e0
  obtain ⟨y1, t1⟩ := hf0 1 _ 1 rfl (by kernel_rfl)
  obtain ⟨a1, e1, -, w1⟩ := DataW.trod_int Try.underlying3 t1
  obtain rfl : u1 = _ := by simpa using e1
  obtain ⟨y2, t2⟩ := hf0 2 _ 3 rfl (by kernel_rfl)
  obtain ⟨a2, e2, o2, g2⟩ := Cm.opens H enc w base spare held _ _ _ rfl t2
  have q2 : [u2, u3, u4] = Row.cells a2 := e2.symm
  simp only [Row.cells, Cm.L, List.cons.injEq, and_true] at q2
  obtain ⟨rfl, rfl, rfl⟩ := q2
  exact ⟨⟨a0, a1, a2⟩, rfl, (by first | rfl | (simp only [Row.cells, Rq.L, Cm.L]; repeat (first | rfl | refine Bool.and_eq_true_iff.2 ⟨(by first | rfl | assumption), ?_⟩))), ⟨i64_wf w0, i64_wf w1, g2⟩⟩
def putRq (r : Rq) : List UInt8 × Int := putReqM r.client r.seq r.cmd.kind r.cmd.session r.cmd.name.data.toList
theorem PutRqS_c (r : Rq) (w : World) (hs : r.cmd.name.size ≤ 9223372036854775807) :
    Calls Try.prog 41 #[agg r] w fun e w' => ∃ (v : Value) (F : Nat → Prop), e = .returned (.tuple #[v, .int .i64 (putRq r).2]) ∧ SH Non Non w w' [.R F v (putRq r).1] :=
  (PutReq_c r.client r.seq r.cmd.kind r.cmd.session r.cmd.name w hs).mono fun e w' h => by
    obtain ⟨v, he, hv, hE⟩ := h
    exact ⟨v, _, he, SH.fromR hE hv.rs⟩
/-- A request that is read. -/
def getRq (xs : List UInt8) (a : Int) : Rq × Int × Int := (⟨(getReqM xs a).1.1, (getReqM xs a).1.2.1, ⟨(getReqM xs a).1.2.2.1, (getReqM xs a).1.2.2.2.1, ⟨(getReqM xs a).1.2.2.2.2.toArray⟩⟩⟩, (getReqM xs a).2.1, (getReqM xs a).2.2)
theorem GetRqS_c {F : Nat → Prop} {v : Value} {xs : List UInt8} (a : Int) (w : World) (hv : Rs F w v xs) :
    Calls Try.prog 43 #[v, .int .i64 a] w fun e w' => e = .returned (.tuple #[agg (getRq xs a).1, .int .i64 (getRq xs a).2.1, .int .i64 (getRq xs a).2.2]) ∧ Ext0 w w' := GetReq_c a w hv.bs
/-- A request by numbers. -/
def rqN (c q k s m : Int) : Rq := ⟨c % 8, 1 + q, ⟨kindN k, sessN k s, nameN k m⟩⟩
theorem ReqS_c (c q k s m : Int) (w : World) (hc : 0 ≤ c ∧ c < 256) (hq : 0 ≤ q ∧ q < 256) (hk : 0 ≤ k ∧ k < 256) (hs : 0 ≤ s ∧ s < 256) (hm : 0 ≤ m ∧ m < 256) :
    Calls Try.prog 47 #[.int .u8 c, .int .u8 q, .int .u8 k, .int .u8 s, .int .u8 m] w fun e w' => e = .returned (agg (rqN c q k s m)) ∧ Ext0 w w' :=
  Req_c c q k s m w hc.1 hc.2 hq.1 hq.2 hk.1 hk.2 hs.1 hs.2 hm.1 hm.2
/-- A request's bytes. -/
def rowB (r : Rq) : List UInt8 := reqB (UInt8.ofNat r.client.toNat) (UInt8.ofNat r.cmd.kind.toNat) r.seq r.cmd.session r.cmd.name.data.toList []
def okRq (r : Rq) : Prop := mayReqM r.client r.seq r.cmd.kind r.cmd.session r.cmd.name.data.toList = true ∧ r.cmd.name.size ≤ 12
theorem rqN_ok {c q k s m : Int} (hc : 0 ≤ c) (hq : 0 ≤ q) (hq2 : q < 256) (hk : 0 ≤ k) (hs : 0 ≤ s) (hm : 0 ≤ m) : okRq (rqN c q k s m) := by
  refine ⟨?_, nameN_size k m hm⟩
  show mayReqM (c % 8) (1 + q) (kindN k) (sessN k s) (nameN k m).data.toList = true
  rw [mayReqM, cmdN_may k s m hk hs hm, decide_eq_true (by omega), decide_eq_true (by omega), decide_eq_true (by omega), decide_eq_true (by omega)]
  rfl
theorem putRq_ok {r : Rq} (h : okRq r) : putRq r = (rowB r, 0) := putReq_B h.1
theorem rowB_len (r : Rq) : (rowB r).length = 19 + r.cmd.name.size := by
  rw [rowB, reqB_len]
  have : r.cmd.name.data.toList.length = r.cmd.name.size := by rw [Array.length_toList]; rfl
  simp only [List.length_nil]; omega
theorem getRq_ok {r : Rq} (h : okRq r) (pre post : List UInt8) : getRq (pre ++ (rowB r ++ post)) pre.length = (r, (((pre ++ rowB r).length : Nat) : Int), 0) := by
  have h1 := getReq_B pre post r.cmd.name.data.toList r.client r.seq r.cmd.kind r.cmd.session h.1
  have h2 := reqB_app (UInt8.ofNat r.client.toNat) (UInt8.ofNat r.cmd.kind.toNat) r.seq r.cmd.session r.cmd.name.data.toList post
  rw [← h2] at h1
  rw [getRq, rowB, h1]
  obtain ⟨r1, r2, ⟨r3, r4, r5⟩⟩ := r
  have h3 := rowB_len ⟨r1, r2, ⟨r3, r4, r5⟩⟩
  have : r5.data.toList.length = r5.size := by rw [Array.length_toList]; rfl
  dsimp only at h3 ⊢
  refine Prod.ext ?_ (Prod.ext ?_ rfl)
  · show (⟨r1, r2, ⟨r3, r4, ⟨r5.data.toList.toArray⟩⟩⟩ : Rq) = _
    rw [Array.toArray_toList]
  · show (pre.length : Int) + 19 + r5.data.toList.length = _
    rw [List.length_append]
    show _ = ((pre.length + (rowB ⟨r1, r2, ⟨r3, r4, r5⟩⟩).length : Nat) : Int)
    omega
theorem getRq_end (xs : List UInt8) : (getRq xs xs.length).2.2 = 2 := by
  have hr : ¬ roomM xs (xs.length : Int) 1 := by unfold roomM; omega
  have h : byteM xs (xs.length : Int) = (0, 0, 2) := by rw [byteM, if_neg hr]
  show (getReqM xs (xs.length : Int)).2.2 = 2
  rw [getReqM, h]
  rfl
theorem rows_cut {rs : List Rq} {k : Nat} {r : Rq} (h : rs[k]? = some r) : rs.flatMap rowB = (rs.take k).flatMap rowB ++ (rowB r ++ (rs.drop (k + 1)).flatMap rowB) ∧ (rs.take (k + 1)).flatMap rowB = (rs.take k).flatMap rowB ++ rowB r := by
  have hl := lt_of_get h
  have h1 : rs = rs.take k ++ r :: rs.drop (k + 1) := by
    have h2 : rs[k] = r := by rw [List.getElem?_eq_getElem hl] at h; exact Option.some.inj h
    rw [← h2, List.getElem_cons_drop, List.take_append_drop]
  constructor
  · conv => lhs; rw [h1]
    rw [List.flatMap_append, List.flatMap_cons]
  · rw [V.take_snoc h, List.flatMap_append, List.flatMap_cons, List.flatMap_nil, List.append_nil]
theorem rows_len : ∀ {rs : List Rq}, (∀ r ∈ rs, okRq r) → (rs.flatMap rowB).length ≤ 31 * rs.length
  | [], _ => by simp
  | r :: rs, h => by
    have h1 := rows_len (rs := rs) fun x hx => h x (by simp [hx])
    have h2 := (h r (by simp)).2
    rw [List.flatMap_cons, List.length_append, rowB_len, List.length_cons]
    omega
set_option maxHeartbeats 16000000 in
theorem CmdRow_c {F : Nat → Prop} {v : Value} {xs : List UInt8} (w : World) (hv : Rs F w v xs) :
    Calls Try.prog 14 #[v] w fun e w' => e = .returned (.bool true) ∧ Ext0 w w' := by
  have H := (SH.start w).arg hv
  have h63 := hv.len63
  refine calls_of_CW Try.func14 rfl Try.ntmps14 (Nat.le_of_ble_eq_true rfl) ?_
  simp only [argE, argFrom, Nat.reduceAdd]
  refine CW.seq (fun K1 h1 => ?_)
  refine CW.region ?_
  refine r_assign rfl ?_
  refine LW.nil ?_
  refine thenE_norm (h1 _ _ ?_); clear h1; try clear K1
  refine CW.seq (fun K2 h2 => ?_)
  refine CW.region ?_
  refine r_assign rfl ?_
  refine LW.nil ?_
  refine thenE_norm (h2 _ _ ?_); clear h2; try clear K2
  refine CW.seq (fun K3 h3 => ?_)
  refine CW.region ?_
  refine r_assign rfl ?_
  refine LW.nil ?_
  refine thenE_norm (h3 _ _ ?_); clear h3; try clear K3
  refine CW.seqJ [] [3, 4] (fun vs w' => ∃ (rs : List Rq) (u ub : Value) (g gb : Option Nat), vs = [u, ub] ∧ rs.length ≤ 20 ∧ (∀ r ∈ rs, okRq r) ∧ SH Non Any w w' [.O 53 u rs g, .O 5 ub (rs.flatMap rowB) gb]) ?_ ?_
  · refine CW.seq (fun K5 h5 => ?_)
    refine CW.region ?_
    refine r_assign rfl ?_
    refine LW.nil ?_
    refine thenE_norm (h5 _ _ ?_); clear h5; try clear K5
    refine CW.block ?_
    refine CW.loopR [0] [3, 4, 5] (fun m vs w' => ∃ (i : Nat) (rs : List Rq) (u ub : Value) (g gb : Option Nat), vs = [u, ub, .int .i64 i] ∧ i = 5 * rs.length ∧ rs.length ≤ 20 ∧ m = xs.length - i ∧ (∀ r ∈ rs, okRq r) ∧ SH Non Any w w' [.R (Old w) v xs, .O 53 u rs g, .O 5 ub (rs.flatMap rowB) gb]) (xs.length) ?_ ?_
    · exact ⟨0, [], .slice none 0 0, .slice none 0 0, none, none, rfl, rfl, by decide, rfl, (fun r h => by cases h), SH.addO (H.addO (α := Rq) 53) (α := UInt8) 5⟩
    try clear H
    rintro n1 vs1 wL1 σ ⟨i, rs, u, ub, g, gb, rfl, hi, hr20, rfl, hok, H⟩
    simp only [setL, keepE, upd_get, ev, Nat.reduceEqDiff, ↓reduceIte]
    refine CW.seq (fun K6 h6 => ?_)
    refine CW.seq (fun K7 h7 => ?_)
    refine CW.region ?_
    refine r_move rfl ?_
    refine r_add rfl rfl rfl (wr_i64 (by omega) (by omega)) ?_
    refine r_move rfl ?_
    first
      | refine r_lenV rfl Try.underlying23 (by simp only [upd_get, ev, Nat.reduceEqDiff, ↓reduceIte] <;> rfl) (by first | assumption | exact SH.rsR H (by (repeat first | exact At.here | apply At.there); done) | exact SH.rsO H (by (repeat first | exact At.here | apply At.there); done) | exact (Rs.nil : Rs Non _ _ _)) ?_
      | refine r_len rfl Try.underlying23 rfl ?_
    refine r_lss rfl rfl rfl ?_
    refine r_move rfl ?_
    refine LW.splitB (t := 22) rfl (fun hg4_6 => ?_) (fun hg4_6 => ?_)
    · have hg4_6P := hg4_6
      try simp only [decide_eq_true_eq, decide_eq_false_iff_not, Bool.and_eq_true, Bool.or_eq_true, Bool.and_eq_false_iff, Bool.or_eq_false_iff, Bool.not_eq_true', Bool.not_eq_false', beq_iff_eq, bne_iff_ne] at hg4_6P
      refine LW.want rfl rfl hg4_6 ?_
      refine r_move rfl ?_
      refine LW.want rfl rfl hg4_6 ?_
      first
        | refine r_lenV rfl Try.underlying61 (by simp only [upd_get, ev, Nat.reduceEqDiff, ↓reduceIte] <;> rfl) (by first | assumption | exact SH.rsR H (by (repeat first | exact At.here | apply At.there); done) | exact SH.rsO H (by (repeat first | exact At.here | apply At.there); done) | exact (Rs.nil : Rs Non _ _ _)) ?_
        | refine r_len rfl Try.underlying61 rfl ?_
      refine LW.want rfl rfl hg4_6 ?_
      refine r_lss rfl rfl rfl ?_
      refine r_pickT rfl rfl hg4_6 ?_
      refine LW.nil ?_
      refine thenE_norm ?_
      refine cut (K := K7) [0, 3, 4, 5, 26] (fun σ => ?_)
      simp only [setL, keepE, upd_get, ev, Nat.reduceEqDiff, ↓reduceIte]
      refine h7 _ _ ?_; clear h7; try clear K7
      refine CW.cond rfl (fun hc1 => ?_) (fun hc1 => ?_)
      · try simp only [decide_eq_true_eq, decide_eq_false_iff_not, Bool.and_eq_true, Bool.or_eq_true, Bool.and_eq_false_iff, Bool.or_eq_false_iff, Bool.not_eq_true', Bool.not_eq_false', beq_iff_eq, bne_iff_ne, ne_eq, Decidable.not_not] at hc1
        refine CW.skip ?_
        refine thenE_norm (h6 _ _ ?_); clear h6; try clear K6
        refine CW.seq (fun K8 h8 => ?_)
        refine CW.block ?_
        refine CW.seq (fun K9 h9 => ?_)
        obtain ⟨y0, hy0⟩ := get_of_lt (show i < xs.length by omega)
        obtain ⟨y1, hy1⟩ := get_of_lt (show i + 1 < xs.length by omega)
        obtain ⟨y2, hy2⟩ := get_of_lt (show i + 2 < xs.length by omega)
        obtain ⟨y3, hy3⟩ := get_of_lt (show i + 3 < xs.length by omega)
        obtain ⟨y4, hy4⟩ := get_of_lt (show i + 4 < xs.length by omega)
        have d0 := y0.toNat_lt
        have d1 := y1.toNat_lt
        have d2 := y2.toNat_lt
        have d3 := y3.toNat_lt
        have d4 := y4.toNat_lt
        have hok1 : okRq (rqN y0.toNat y1.toNat y2.toNat y3.toNat y4.toNat) := rqN_ok (by omega) (by omega) (by omega) (by omega) (by omega) (by omega)
        generalize hR : rqN y0.toNat y1.toNat y2.toNat y3.toNat y4.toNat = R at *
        have hpt := putRq_ok hok1
        have hsz := hok1.2
        have hrl := rowB_len R
        obtain ⟨R1, R2, ⟨R3, R4, R5⟩⟩ := R
        dsimp only at hsz hrl
        refine CW.drawH [26] H (List.Sublist.refl _) (by kernel_rfl) rfl ?_
        clear H
        intro w6d H
        refine DL.take (i := 0) [0, 2, 3, 24, 26] rfl (by kernel_rfl) (by kernel_rfl) (by kernel_rfl) (by kernel_rfl) rfl rfl (fun u H => x_move ) H ?_
        refine DL.take (i := 1) [1, 2, 3, 24, 26] rfl (by kernel_rfl) (by kernel_rfl) (by kernel_rfl) (by kernel_rfl) rfl rfl (fun u H => x_move ) H ?_
        refine DL.take (i := 2) [2, 3, 24, 26] rfl (by kernel_rfl) (by kernel_rfl) (by kernel_rfl) (by kernel_rfl) rfl rfl (fun u H => x_indexAddrV Try.underlying23 (by simp only [upd_get, ev, Nat.reduceEqDiff, ↓reduceIte] <;> rfl) rfl (by first | assumption | exact SH.rsR H (by (repeat first | exact At.here | apply At.there); done) | exact SH.rsO H (by (repeat first | exact At.here | apply At.there); done) | exact (Rs.nil : Rs Non _ _ _)) (by exact Try.sizeOf5) (by omega) (by omega)) H ?_
        refine DL.take (i := 3) [3, 24, 26] rfl (by kernel_rfl) (by kernel_rfl) (by kernel_rfl) (by kernel_rfl) rfl rfl (fun u H => x_load Try.isAgg5 rfl (by first | exact Rs.cell (by first | assumption | exact SH.rsR H (by (repeat first | exact At.here | apply At.there); done) | exact SH.rsO H (by (repeat first | exact At.here | apply At.there); done) | exact (Rs.nil : Rs Non _ _ _)) (by assumption) (by rfl) | exact Rs.cell0 (by first | assumption | exact SH.rsR H (by (repeat first | exact At.here | apply At.there); done) | exact SH.rsO H (by (repeat first | exact At.here | apply At.there); done) | exact (Rs.nil : Rs Non _ _ _)) (by assumption) (by rfl) | assumption)) H ?_
        refine DL.take (i := 4) [4, 7, 8, 24, 26] rfl (by kernel_rfl) (by kernel_rfl) (by kernel_rfl) (by kernel_rfl) rfl rfl (fun u H => x_move ) H ?_
        refine DL.take (i := 5) [5, 6, 7, 8, 24, 26] rfl (by kernel_rfl) (by kernel_rfl) (by kernel_rfl) (by kernel_rfl) rfl rfl (fun u H => x_move ) H ?_
        refine DL.take (i := 6) [6, 7, 8, 24, 26] rfl (by kernel_rfl) (by kernel_rfl) (by kernel_rfl) (by kernel_rfl) rfl rfl (fun u H => x_add rfl rfl (wr_i64 (by omega) (by omega))) H ?_
        refine DL.take (i := 7) [7, 8, 24, 26] rfl (by kernel_rfl) (by kernel_rfl) (by kernel_rfl) (by kernel_rfl) rfl rfl (fun u H => x_indexAddrV Try.underlying23 (by simp only [upd_get, ev, Nat.reduceEqDiff, ↓reduceIte] <;> rfl) rfl (by first | assumption | exact SH.rsR H (by (repeat first | exact At.here | apply At.there); done) | exact SH.rsO H (by (repeat first | exact At.here | apply At.there); done) | exact (Rs.nil : Rs Non _ _ _)) (by exact Try.sizeOf5) (by omega) (by omega)) H ?_
        refine DL.take (i := 8) [8, 24, 26] rfl (by kernel_rfl) (by kernel_rfl) (by kernel_rfl) (by kernel_rfl) rfl rfl (fun u H => x_load Try.isAgg5 rfl (by first | exact Rs.cell (by first | assumption | exact SH.rsR H (by (repeat first | exact At.here | apply At.there); done) | exact SH.rsO H (by (repeat first | exact At.here | apply At.there); done) | exact (Rs.nil : Rs Non _ _ _)) (by assumption) (by rfl) | exact Rs.cell0 (by first | assumption | exact SH.rsR H (by (repeat first | exact At.here | apply At.there); done) | exact SH.rsO H (by (repeat first | exact At.here | apply At.there); done) | exact (Rs.nil : Rs Non _ _ _)) (by assumption) (by rfl) | assumption)) H ?_
        refine DL.take (i := 9) [9, 12, 13, 24, 26] rfl (by kernel_rfl) (by kernel_rfl) (by kernel_rfl) (by kernel_rfl) rfl rfl (fun u H => x_move ) H ?_
        refine DL.take (i := 10) [10, 11, 12, 13, 24, 26] rfl (by kernel_rfl) (by kernel_rfl) (by kernel_rfl) (by kernel_rfl) rfl rfl (fun u H => x_move ) H ?_
        refine DL.take (i := 11) [11, 12, 13, 24, 26] rfl (by kernel_rfl) (by kernel_rfl) (by kernel_rfl) (by kernel_rfl) rfl rfl (fun u H => x_add rfl rfl (wr_i64 (by omega) (by omega))) H ?_
        refine DL.take (i := 12) [12, 13, 24, 26] rfl (by kernel_rfl) (by kernel_rfl) (by kernel_rfl) (by kernel_rfl) rfl rfl (fun u H => x_indexAddrV Try.underlying23 (by simp only [upd_get, ev, Nat.reduceEqDiff, ↓reduceIte] <;> rfl) rfl (by first | assumption | exact SH.rsR H (by (repeat first | exact At.here | apply At.there); done) | exact SH.rsO H (by (repeat first | exact At.here | apply At.there); done) | exact (Rs.nil : Rs Non _ _ _)) (by exact Try.sizeOf5) (by omega) (by omega)) H ?_
        refine DL.take (i := 13) [13, 24, 26] rfl (by kernel_rfl) (by kernel_rfl) (by kernel_rfl) (by kernel_rfl) rfl rfl (fun u H => x_load Try.isAgg5 rfl (by first | exact Rs.cell (by first | assumption | exact SH.rsR H (by (repeat first | exact At.here | apply At.there); done) | exact SH.rsO H (by (repeat first | exact At.here | apply At.there); done) | exact (Rs.nil : Rs Non _ _ _)) (by assumption) (by rfl) | exact Rs.cell0 (by first | assumption | exact SH.rsR H (by (repeat first | exact At.here | apply At.there); done) | exact SH.rsO H (by (repeat first | exact At.here | apply At.there); done) | exact (Rs.nil : Rs Non _ _ _)) (by assumption) (by rfl) | assumption)) H ?_
        refine DL.take (i := 14) [14, 17, 18, 24, 26] rfl (by kernel_rfl) (by kernel_rfl) (by kernel_rfl) (by kernel_rfl) rfl rfl (fun u H => x_move ) H ?_
        refine DL.take (i := 15) [15, 16, 17, 18, 24, 26] rfl (by kernel_rfl) (by kernel_rfl) (by kernel_rfl) (by kernel_rfl) rfl rfl (fun u H => x_move ) H ?_
        refine DL.take (i := 16) [16, 17, 18, 24, 26] rfl (by kernel_rfl) (by kernel_rfl) (by kernel_rfl) (by kernel_rfl) rfl rfl (fun u H => x_add rfl rfl (wr_i64 (by omega) (by omega))) H ?_
        refine DL.take (i := 17) [17, 18, 24, 26] rfl (by kernel_rfl) (by kernel_rfl) (by kernel_rfl) (by kernel_rfl) rfl rfl (fun u H => x_indexAddrV Try.underlying23 (by simp only [upd_get, ev, Nat.reduceEqDiff, ↓reduceIte] <;> rfl) rfl (by first | assumption | exact SH.rsR H (by (repeat first | exact At.here | apply At.there); done) | exact SH.rsO H (by (repeat first | exact At.here | apply At.there); done) | exact (Rs.nil : Rs Non _ _ _)) (by exact Try.sizeOf5) (by omega) (by omega)) H ?_
        refine DL.take (i := 18) [18, 24, 26] rfl (by kernel_rfl) (by kernel_rfl) (by kernel_rfl) (by kernel_rfl) rfl rfl (fun u H => x_load Try.isAgg5 rfl (by first | exact Rs.cell (by first | assumption | exact SH.rsR H (by (repeat first | exact At.here | apply At.there); done) | exact SH.rsO H (by (repeat first | exact At.here | apply At.there); done) | exact (Rs.nil : Rs Non _ _ _)) (by assumption) (by rfl) | exact Rs.cell0 (by first | assumption | exact SH.rsR H (by (repeat first | exact At.here | apply At.there); done) | exact SH.rsO H (by (repeat first | exact At.here | apply At.there); done) | exact (Rs.nil : Rs Non _ _ _)) (by assumption) (by rfl) | assumption)) H ?_
        refine DL.take (i := 19) [19, 22, 23, 24, 26] rfl (by kernel_rfl) (by kernel_rfl) (by kernel_rfl) (by kernel_rfl) rfl rfl (fun u H => x_move ) H ?_
        refine DL.take (i := 20) [20, 21, 22, 23, 24, 26] rfl (by kernel_rfl) (by kernel_rfl) (by kernel_rfl) (by kernel_rfl) rfl rfl (fun u H => x_move ) H ?_
        refine DL.take (i := 21) [21, 22, 23, 24, 26] rfl (by kernel_rfl) (by kernel_rfl) (by kernel_rfl) (by kernel_rfl) rfl rfl (fun u H => x_add rfl rfl (wr_i64 (by omega) (by omega))) H ?_
        refine DL.take (i := 22) [22, 23, 24, 26] rfl (by kernel_rfl) (by kernel_rfl) (by kernel_rfl) (by kernel_rfl) rfl rfl (fun u H => x_indexAddrV Try.underlying23 (by simp only [upd_get, ev, Nat.reduceEqDiff, ↓reduceIte] <;> rfl) rfl (by first | assumption | exact SH.rsR H (by (repeat first | exact At.here | apply At.there); done) | exact SH.rsO H (by (repeat first | exact At.here | apply At.there); done) | exact (Rs.nil : Rs Non _ _ _)) (by exact Try.sizeOf5) (by omega) (by omega)) H ?_
        refine DL.take (i := 23) [23, 24, 26] rfl (by kernel_rfl) (by kernel_rfl) (by kernel_rfl) (by kernel_rfl) rfl rfl (fun u H => x_load Try.isAgg5 rfl (by first | exact Rs.cell (by first | assumption | exact SH.rsR H (by (repeat first | exact At.here | apply At.there); done) | exact SH.rsO H (by (repeat first | exact At.here | apply At.there); done) | exact (Rs.nil : Rs Non _ _ _)) (by assumption) (by rfl) | exact Rs.cell0 (by first | assumption | exact SH.rsR H (by (repeat first | exact At.here | apply At.there); done) | exact SH.rsO H (by (repeat first | exact At.here | apply At.there); done) | exact (Rs.nil : Rs Non _ _ _)) (by assumption) (by rfl) | assumption)) H ?_
        refine DL.two (i := 24) (j := 25) (by kernel_rfl) ?_ ?_
        · refine LOp.of rfl rfl ?_
          refine r_call rfl Try.call47 (by simp only [List.map_cons, List.map_nil, List.map_toArray, List.toList_toArray, upd_get, ev, Nat.reduceEqDiff, ↓reduceIte] <;> rfl) (ReqS_c _ _ _ _ _ _ (by omega) (by omega) (by omega) (by omega) (by omega)) ?_
          rintro _ w6_24 ⟨rfl, X⟩
          refine ⟨_, rfl, ?_⟩
          replace H := SH.same H X
          clear X
          rw [hR]
          refine LW.nil (thenE_norm ⟨fun _ => (SH.sub H (by repeat first | exact List.Sublist.refl _ | exact List.nil_sublist _ | apply List.Sublist.cons_cons | apply List.Sublist.cons)), ?_⟩)
          refine DL.one (i := 25) (by kernel_rfl) rfl rfl ?_
          refine s_alloc (cs := [.int .i64 0, .int .i64 0, .int .i64 0, .int .i64 0, .string (ByteArray.mk #[])]) H rfl Try.zeroValue53 rfl ?_
          clear H
          intro b6_25 w6_25 H
          try dsimp only [replC, List.cons_append, List.nil_append, List.append_nil, agg, cellsL, Value.cells, List.toList_toArray, List.set_cons_zero, List.set_cons_succ, spliceL, List.take_succ_cons, List.take_zero, List.drop_succ_cons, List.drop_zero, List.length_cons, List.length_nil, Nat.reduceAdd, Row.cells, Cm.L, Rq.L] at H
          refine LW.nil (thenE_norm ⟨fun _ => (SH.sub H (by repeat first | exact List.Sublist.refl _ | exact List.nil_sublist _ | apply List.Sublist.cons_cons | apply List.Sublist.cons)), ?_⟩)
          refine DL.one (i := 26) (by kernel_rfl) rfl rfl ?_
          refine s_storeA H Try.sizeOf53 rfl (by simp only [upd_get, ev, Nat.reduceEqDiff, ↓reduceIte] <;> rfl) (by simp only [cellsL, agg, List.toList_toArray, Row.cells, Cm.L, Rq.L] <;> rfl) (by rfl) (by first | rfl | assumption | exact Rs.oneC (by first | assumption | exact SH.rsR H (by (repeat first | exact At.here | apply At.there); done) | exact SH.rsO H (by (repeat first | exact At.here | apply At.there); done) | exact (Rs.nil : Rs Non _ _ _)) | (simp only [List.all_cons, List.all_nil, Bool.and_true, Bool.and_eq_true, Row.cells, Cm.L, Rq.L]; (repeat' constructor) <;> first | rfl | assumption | exact Rs.oneC (by first | assumption | exact SH.rsR H (by (repeat first | exact At.here | apply At.there); done) | exact SH.rsO H (by (repeat first | exact At.here | apply At.there); done) | exact (Rs.nil : Rs Non _ _ _)))) (by (repeat first | exact At.here | apply At.there); done) (by first | (simp; done) | decide | (show _ ≤ _; decide)) ?_
          clear H
          intro w6_26 H
          try dsimp only [replC, List.cons_append, List.nil_append, List.append_nil, agg, cellsL, Value.cells, List.toList_toArray, List.set_cons_zero, List.set_cons_succ, spliceL, List.take_succ_cons, List.take_zero, List.drop_succ_cons, List.drop_zero, List.length_cons, List.length_nil, Nat.reduceAdd, Row.cells, Cm.L, Rq.L] at H
          refine LW.nil (thenE_norm ⟨fun h => Bool.noConfusion (show true = false from h), ?_⟩)
          refine DL.done (by kernel_rfl) ?_
          refine thenE_norm ?_
          refine cut (K := K9) [0, 3, 4, 5, 6] (fun σ => ?_)
          simp only [setL, keepE, upd_get, ev, Nat.reduceEqDiff, ↓reduceIte]
          refine h9 _ _ ?_; clear h9; try clear K9
          refine CW.seq (fun K10 h10 => ?_)
          refine CW.region ?_
          refine r_loadA rfl Try.isAgg53 Try.sizeOf53 rfl (by first | exact SH.cells H (by (repeat first | exact At.here | apply At.there); done)) (by rfl) ?_
          refine r_call rfl Try.call41 (by simp only [List.map_cons, List.map_nil, List.map_toArray, List.toList_toArray, upd_get, ev, Nat.reduceEqDiff, ↓reduceIte] <;> rfl) (PutRqS_c ⟨R1, R2, ⟨R3, R4, R5⟩⟩ _ (by dsimp only; omega)) ?_
          rintro _ w7_1 ⟨v7_1, F7_1, rfl, K⟩
          refine ⟨_, rfl, ?_⟩
          replace H := SH.call H K
          clear K
          try dsimp only [replC, List.cons_append, List.nil_append, List.append_nil] at H
          rw [hpt] at H ⊢
          dsimp only at H ⊢
          refine r_move rfl ?_
          refine r_extract rfl (by simp only [upd_get, ev, Nat.reduceEqDiff, ↓reduceIte] <;> rfl) (by simp only [List.getElem?_toArray, List.getElem?_cons_zero, List.getElem?_cons_succ] <;> rfl) ?_
          refine r_extract rfl (by simp only [upd_get, ev, Nat.reduceEqDiff, ↓reduceIte] <;> rfl) (by simp only [List.getElem?_toArray, List.getElem?_cons_zero, List.getElem?_cons_succ] <;> rfl) ?_
          refine r_assign rfl ?_
          refine r_assign rfl ?_
          refine LW.nil ?_
          refine thenE_norm (h10 _ _ ?_); clear h10; try clear K10
          refine CW.seq (fun K11 h11 => ?_)
          refine CW.seq (fun K12 h12 => ?_)
          refine CW.region ?_
          refine r_move rfl ?_
          refine r_neq rfl rfl rfl ?_
          refine LW.nil ?_
          refine thenE_norm ?_
          refine cut (K := K12) [0, 3, 4, 5, 6, 7, 60] (fun σ => ?_)
          simp only [setL, keepE, upd_get, ev, Nat.reduceEqDiff, ↓reduceIte]
          refine h12 _ _ ?_; clear h12; try clear K12
          refine CW.condF rfl (by first | rfl | (simp only [decide_eq_true_eq, decide_eq_false_iff_not, Bool.and_eq_true, Bool.or_eq_true, Bool.and_eq_false_iff, Bool.or_eq_false_iff, Bool.not_eq_true', Bool.not_eq_false', beq_iff_eq, bne_iff_ne]; omega) | simp_all) ?_
          refine CW.skip ?_
          refine thenE_norm (h11 _ _ ?_); clear h11; try clear K11
          refine CW.seq (fun K13 h13 => ?_)
          refine CW.region ?_
          refine r_move rfl ?_
          refine r_loadA rfl Try.isAgg53 Try.sizeOf53 rfl (by first | exact SH.cells H (by (repeat first | exact At.here | apply At.there); done)) (by rfl) ?_
          refine r_buildSliceA (vs := [_]) rfl Try.underlying61 Try.sizeOf53 Try.zeroValue53 rfl rfl rfl rfl (by simp only [List.map_cons, List.map_nil, List.toList_toArray, numbered, Nat.reduceAdd, upd_get, ev, Nat.reduceEqDiff, ↓reduceIte] <;> rfl) rfl (by intro v hv; simp only [List.mem_cons, List.not_mem_nil, or_false] at hv; rcases hv with rfl <;> rfl) ?_
          intro b10_2 w10_2 hb10_2 hs10_2 hE10_2 hB10_2
          replace H := SH.call H (SH.fromB hE10_2 hb10_2 hs10_2 hB10_2)
          clear hb10_2 hs10_2 hE10_2 hB10_2
          try dsimp only [replC, List.cons_append, List.nil_append, List.append_nil, agg, cellsL, Value.cells, List.toList_toArray, List.set_cons_zero, List.set_cons_succ, spliceL, List.take_succ_cons, List.take_zero, List.drop_succ_cons, List.drop_zero, List.length_cons, List.length_nil, Nat.reduceAdd, Row.cells, Cm.L, Rq.L] at H
          replace H := SH.row (b := b10_2) (xs := ([⟨R1, R2, ⟨R3, R4, R5⟩⟩] : List Rq)) (n := 1) (cap := 1) H (by (repeat first | exact At.here | apply At.there); done) (by simp only [flat, List.flatMap_cons, List.flatMap_nil, cellsL, agg, List.append_nil, List.cons_append, List.nil_append, List.toList_toArray, Row.cells, Cm.L, Rq.L] <;> rfl) (by intro x hx; first | rfl | (simp at hx; done) | (simp only [List.mem_cons, List.not_mem_nil, or_false] at hx; rcases hx with rfl <;> first | rfl | exact (by first | rfl | assumption | exact Rs.oneC (by first | assumption | exact SH.rsR H (by (repeat first | exact At.here | apply At.there); done) | exact SH.rsO H (by (repeat first | exact At.here | apply At.there); done) | exact (Rs.nil : Rs Non _ _ _)) | (simp only [List.all_cons, List.all_nil, Bool.and_true, Bool.and_eq_true, Row.cells, Cm.L, Rq.L]; (repeat' constructor) <;> first | rfl | assumption | exact Rs.oneC (by first | assumption | exact SH.rsR H (by (repeat first | exact At.here | apply At.there); done) | exact SH.rsO H (by (repeat first | exact At.here | apply At.there); done) | exact (Rs.nil : Rs Non _ _ _)))))) (by rfl) rfl (by decide)
          try dsimp only [replC, List.cons_append, List.nil_append, List.append_nil, agg, cellsL, Value.cells, List.toList_toArray, List.set_cons_zero, List.set_cons_succ, spliceL, List.take_succ_cons, List.take_zero, List.drop_succ_cons, List.drop_zero, List.length_cons, List.length_nil, Nat.reduceAdd, Row.cells, Cm.L, Rq.L] at H
          refine s_append H rfl Try.underlying61 Try.underlying61 Try.type53 rfl (by simp only [upd_get, ev, Nat.reduceEqDiff, ↓reduceIte] <;> rfl) (by simp only [upd_get, ev, Nat.reduceEqDiff, ↓reduceIte] <;> rfl) (by (repeat first | exact At.here | apply At.there); done) (by first | assumption | exact SH.rsR H (by (repeat first | exact At.here | apply At.there); done) | exact SH.rsO H (by (repeat first | exact At.here | apply At.there); done) | exact (Rs.nil : Rs Non _ _ _)) (by rfl) (by rfl) (by first | omega | (simp only [Try.t53, List.length_append, List.length_cons, List.length_nil, List.length_map, maxLen]; omega) | (simp [Try.t53, maxLen]; omega)) (by first | omega | (simp only [Try.t53, List.length_append, List.length_cons, List.length_nil, List.length_map, maxLen]; omega) | (simp [Try.t53, maxLen]; omega)) ?_
          clear H
          intro v10_3 w10_3 g10_3 H hN10_3
          try dsimp only [replC, List.cons_append, List.nil_append, List.append_nil] at H
          refine r_assign rfl ?_
          refine LW.nil ?_
          refine thenE_norm (h13 _ _ ?_); clear h13; try clear K13
          have hbl := rows_len hok
          refine CW.region ?_
          refine r_move rfl ?_
          refine r_move rfl ?_
          refine s_append H rfl Try.underlying23 Try.underlying23 Try.type5 rfl (by simp only [upd_get, ev, Nat.reduceEqDiff, ↓reduceIte] <;> rfl) (by simp only [upd_get, ev, Nat.reduceEqDiff, ↓reduceIte] <;> rfl) (by (repeat first | exact At.here | apply At.there); done) (by first | assumption | exact SH.rsR H (by (repeat first | exact At.here | apply At.there); done) | exact SH.rsO H (by (repeat first | exact At.here | apply At.there); done) | exact (Rs.nil : Rs Non _ _ _)) (by rfl) (by rfl) (by first | omega | (simp only [Try.t5, List.length_append, List.length_cons, List.length_nil, List.length_map, maxLen]; omega) | (simp [Try.t5, maxLen]; omega)) (by first | omega | (simp only [Try.t5, List.length_append, List.length_cons, List.length_nil, List.length_map, maxLen]; omega) | (simp [Try.t5, maxLen]; omega)) ?_
          clear H
          intro v11_2 w11_2 g11_2 H hN11_2
          try dsimp only [replC, List.cons_append, List.nil_append, List.append_nil] at H
          refine r_assign rfl ?_
          refine LW.nil ?_
          refine blockE_norm ?_
          refine thenE_norm (h8 _ _ ?_); clear h8; try clear K8
          refine CW.region ?_
          refine r_move rfl ?_
          refine r_add rfl rfl rfl (wr_i64 (by omega) (by omega)) ?_
          refine r_assign rfl ?_
          refine LW.nil ?_
          refine thenE_norm ⟨rfl, ?_⟩
          exact ⟨xs.length - (i + 5), by omega, i + 5, rs ++ [⟨R1, R2, ⟨R3, R4, R5⟩⟩], _, _, _, _, rfl, by rw [List.length_append, List.length_singleton]; omega, by rw [List.length_append, List.length_singleton]; omega, rfl, (fun r hr => by
            rcases List.mem_append.1 hr with hr | hr
            · exact hok r hr
            · rw [List.mem_singleton] at hr; subst hr; exact hok1), by rw [List.flatMap_append, List.flatMap_cons, List.flatMap_nil, List.append_nil]; exact SH.sel H [0, 1, 2] (by decide) rfl⟩
        · refine LOp.of rfl rfl ?_
          refine s_alloc (cs := [.int .i64 0, .int .i64 0, .int .i64 0, .int .i64 0, .string (ByteArray.mk #[])]) H rfl Try.zeroValue53 rfl ?_
          clear H
          intro b6_25 w6_25 H
          try dsimp only [replC, List.cons_append, List.nil_append, List.append_nil, agg, cellsL, Value.cells, List.toList_toArray, List.set_cons_zero, List.set_cons_succ, spliceL, List.take_succ_cons, List.take_zero, List.drop_succ_cons, List.drop_zero, List.length_cons, List.length_nil, Nat.reduceAdd, Row.cells, Cm.L, Rq.L] at H
          refine LW.nil (thenE_norm ⟨fun _ => (SH.sub H (by repeat first | exact List.Sublist.refl _ | exact List.nil_sublist _ | apply List.Sublist.cons_cons | apply List.Sublist.cons)), ?_⟩)
          refine DL.one (i := 24) (by kernel_rfl) rfl rfl ?_
          refine r_call rfl Try.call47 (by simp only [List.map_cons, List.map_nil, List.map_toArray, List.toList_toArray, upd_get, ev, Nat.reduceEqDiff, ↓reduceIte] <;> rfl) (ReqS_c _ _ _ _ _ _ (by omega) (by omega) (by omega) (by omega) (by omega)) ?_
          rintro _ w6_24 ⟨rfl, X⟩
          refine ⟨_, rfl, ?_⟩
          replace H := SH.same H X
          clear X
          rw [hR]
          refine LW.nil (thenE_norm ⟨fun _ => (SH.sub H (by repeat first | exact List.Sublist.refl _ | exact List.nil_sublist _ | apply List.Sublist.cons_cons | apply List.Sublist.cons)), ?_⟩)
          refine DL.one (i := 26) (by kernel_rfl) rfl rfl ?_
          refine s_storeA H Try.sizeOf53 rfl (by simp only [upd_get, ev, Nat.reduceEqDiff, ↓reduceIte] <;> rfl) (by simp only [cellsL, agg, List.toList_toArray, Row.cells, Cm.L, Rq.L] <;> rfl) (by rfl) (by first | rfl | assumption | exact Rs.oneC (by first | assumption | exact SH.rsR H (by (repeat first | exact At.here | apply At.there); done) | exact SH.rsO H (by (repeat first | exact At.here | apply At.there); done) | exact (Rs.nil : Rs Non _ _ _)) | (simp only [List.all_cons, List.all_nil, Bool.and_true, Bool.and_eq_true, Row.cells, Cm.L, Rq.L]; (repeat' constructor) <;> first | rfl | assumption | exact Rs.oneC (by first | assumption | exact SH.rsR H (by (repeat first | exact At.here | apply At.there); done) | exact SH.rsO H (by (repeat first | exact At.here | apply At.there); done) | exact (Rs.nil : Rs Non _ _ _)))) (by (repeat first | exact At.here | apply At.there); done) (by first | (simp; done) | decide | (show _ ≤ _; decide)) ?_
          clear H
          intro w6_26 H
          try dsimp only [replC, List.cons_append, List.nil_append, List.append_nil, agg, cellsL, Value.cells, List.toList_toArray, List.set_cons_zero, List.set_cons_succ, spliceL, List.take_succ_cons, List.take_zero, List.drop_succ_cons, List.drop_zero, List.length_cons, List.length_nil, Nat.reduceAdd, Row.cells, Cm.L, Rq.L] at H
          refine LW.nil (thenE_norm ⟨fun h => Bool.noConfusion (show true = false from h), ?_⟩)
          refine DL.done (by kernel_rfl) ?_
          refine thenE_norm ?_
          refine cut (K := K9) [0, 3, 4, 5, 6] (fun σ => ?_)
          simp only [setL, keepE, upd_get, ev, Nat.reduceEqDiff, ↓reduceIte]
          refine h9 _ _ ?_; clear h9; try clear K9
          refine CW.seq (fun K14 h14 => ?_)
          refine CW.region ?_
          refine r_loadA rfl Try.isAgg53 Try.sizeOf53 rfl (by first | exact SH.cells H (by (repeat first | exact At.here | apply At.there); done)) (by rfl) ?_
          refine r_call rfl Try.call41 (by simp only [List.map_cons, List.map_nil, List.map_toArray, List.toList_toArray, upd_get, ev, Nat.reduceEqDiff, ↓reduceIte] <;> rfl) (PutRqS_c ⟨R1, R2, ⟨R3, R4, R5⟩⟩ _ (by dsimp only; omega)) ?_
          rintro _ w7_1 ⟨v7_1, F7_1, rfl, K⟩
          refine ⟨_, rfl, ?_⟩
          replace H := SH.call H K
          clear K
          try dsimp only [replC, List.cons_append, List.nil_append, List.append_nil] at H
          rw [hpt] at H ⊢
          dsimp only at H ⊢
          refine r_move rfl ?_
          refine r_extract rfl (by simp only [upd_get, ev, Nat.reduceEqDiff, ↓reduceIte] <;> rfl) (by simp only [List.getElem?_toArray, List.getElem?_cons_zero, List.getElem?_cons_succ] <;> rfl) ?_
          refine r_extract rfl (by simp only [upd_get, ev, Nat.reduceEqDiff, ↓reduceIte] <;> rfl) (by simp only [List.getElem?_toArray, List.getElem?_cons_zero, List.getElem?_cons_succ] <;> rfl) ?_
          refine r_assign rfl ?_
          refine r_assign rfl ?_
          refine LW.nil ?_
          refine thenE_norm (h14 _ _ ?_); clear h14; try clear K14
          refine CW.seq (fun K15 h15 => ?_)
          refine CW.seq (fun K16 h16 => ?_)
          refine CW.region ?_
          refine r_move rfl ?_
          refine r_neq rfl rfl rfl ?_
          refine LW.nil ?_
          refine thenE_norm ?_
          refine cut (K := K16) [0, 3, 4, 5, 6, 7, 60] (fun σ => ?_)
          simp only [setL, keepE, upd_get, ev, Nat.reduceEqDiff, ↓reduceIte]
          refine h16 _ _ ?_; clear h16; try clear K16
          refine CW.condF rfl (by first | rfl | (simp only [decide_eq_true_eq, decide_eq_false_iff_not, Bool.and_eq_true, Bool.or_eq_true, Bool.and_eq_false_iff, Bool.or_eq_false_iff, Bool.not_eq_true', Bool.not_eq_false', beq_iff_eq, bne_iff_ne]; omega) | simp_all) ?_
          refine CW.skip ?_
          refine thenE_norm (h15 _ _ ?_); clear h15; try clear K15
          refine CW.seq (fun K17 h17 => ?_)
          refine CW.region ?_
          refine r_move rfl ?_
          refine r_loadA rfl Try.isAgg53 Try.sizeOf53 rfl (by first | exact SH.cells H (by (repeat first | exact At.here | apply At.there); done)) (by rfl) ?_
          refine r_buildSliceA (vs := [_]) rfl Try.underlying61 Try.sizeOf53 Try.zeroValue53 rfl rfl rfl rfl (by simp only [List.map_cons, List.map_nil, List.toList_toArray, numbered, Nat.reduceAdd, upd_get, ev, Nat.reduceEqDiff, ↓reduceIte] <;> rfl) rfl (by intro v hv; simp only [List.mem_cons, List.not_mem_nil, or_false] at hv; rcases hv with rfl <;> rfl) ?_
          intro b10_2 w10_2 hb10_2 hs10_2 hE10_2 hB10_2
          replace H := SH.call H (SH.fromB hE10_2 hb10_2 hs10_2 hB10_2)
          clear hb10_2 hs10_2 hE10_2 hB10_2
          try dsimp only [replC, List.cons_append, List.nil_append, List.append_nil, agg, cellsL, Value.cells, List.toList_toArray, List.set_cons_zero, List.set_cons_succ, spliceL, List.take_succ_cons, List.take_zero, List.drop_succ_cons, List.drop_zero, List.length_cons, List.length_nil, Nat.reduceAdd, Row.cells, Cm.L, Rq.L] at H
          replace H := SH.row (b := b10_2) (xs := ([⟨R1, R2, ⟨R3, R4, R5⟩⟩] : List Rq)) (n := 1) (cap := 1) H (by (repeat first | exact At.here | apply At.there); done) (by simp only [flat, List.flatMap_cons, List.flatMap_nil, cellsL, agg, List.append_nil, List.cons_append, List.nil_append, List.toList_toArray, Row.cells, Cm.L, Rq.L] <;> rfl) (by intro x hx; first | rfl | (simp at hx; done) | (simp only [List.mem_cons, List.not_mem_nil, or_false] at hx; rcases hx with rfl <;> first | rfl | exact (by first | rfl | assumption | exact Rs.oneC (by first | assumption | exact SH.rsR H (by (repeat first | exact At.here | apply At.there); done) | exact SH.rsO H (by (repeat first | exact At.here | apply At.there); done) | exact (Rs.nil : Rs Non _ _ _)) | (simp only [List.all_cons, List.all_nil, Bool.and_true, Bool.and_eq_true, Row.cells, Cm.L, Rq.L]; (repeat' constructor) <;> first | rfl | assumption | exact Rs.oneC (by first | assumption | exact SH.rsR H (by (repeat first | exact At.here | apply At.there); done) | exact SH.rsO H (by (repeat first | exact At.here | apply At.there); done) | exact (Rs.nil : Rs Non _ _ _)))))) (by rfl) rfl (by decide)
          try dsimp only [replC, List.cons_append, List.nil_append, List.append_nil, agg, cellsL, Value.cells, List.toList_toArray, List.set_cons_zero, List.set_cons_succ, spliceL, List.take_succ_cons, List.take_zero, List.drop_succ_cons, List.drop_zero, List.length_cons, List.length_nil, Nat.reduceAdd, Row.cells, Cm.L, Rq.L] at H
          refine s_append H rfl Try.underlying61 Try.underlying61 Try.type53 rfl (by simp only [upd_get, ev, Nat.reduceEqDiff, ↓reduceIte] <;> rfl) (by simp only [upd_get, ev, Nat.reduceEqDiff, ↓reduceIte] <;> rfl) (by (repeat first | exact At.here | apply At.there); done) (by first | assumption | exact SH.rsR H (by (repeat first | exact At.here | apply At.there); done) | exact SH.rsO H (by (repeat first | exact At.here | apply At.there); done) | exact (Rs.nil : Rs Non _ _ _)) (by rfl) (by rfl) (by first | omega | (simp only [Try.t53, List.length_append, List.length_cons, List.length_nil, List.length_map, maxLen]; omega) | (simp [Try.t53, maxLen]; omega)) (by first | omega | (simp only [Try.t53, List.length_append, List.length_cons, List.length_nil, List.length_map, maxLen]; omega) | (simp [Try.t53, maxLen]; omega)) ?_
          clear H
          intro v10_3 w10_3 g10_3 H hN10_3
          try dsimp only [replC, List.cons_append, List.nil_append, List.append_nil] at H
          refine r_assign rfl ?_
          refine LW.nil ?_
          refine thenE_norm (h17 _ _ ?_); clear h17; try clear K17
          have hbl := rows_len hok
          refine CW.region ?_
          refine r_move rfl ?_
          refine r_move rfl ?_
          refine s_append H rfl Try.underlying23 Try.underlying23 Try.type5 rfl (by simp only [upd_get, ev, Nat.reduceEqDiff, ↓reduceIte] <;> rfl) (by simp only [upd_get, ev, Nat.reduceEqDiff, ↓reduceIte] <;> rfl) (by (repeat first | exact At.here | apply At.there); done) (by first | assumption | exact SH.rsR H (by (repeat first | exact At.here | apply At.there); done) | exact SH.rsO H (by (repeat first | exact At.here | apply At.there); done) | exact (Rs.nil : Rs Non _ _ _)) (by rfl) (by rfl) (by first | omega | (simp only [Try.t5, List.length_append, List.length_cons, List.length_nil, List.length_map, maxLen]; omega) | (simp [Try.t5, maxLen]; omega)) (by first | omega | (simp only [Try.t5, List.length_append, List.length_cons, List.length_nil, List.length_map, maxLen]; omega) | (simp [Try.t5, maxLen]; omega)) ?_
          clear H
          intro v11_2 w11_2 g11_2 H hN11_2
          try dsimp only [replC, List.cons_append, List.nil_append, List.append_nil] at H
          refine r_assign rfl ?_
          refine LW.nil ?_
          refine blockE_norm ?_
          refine thenE_norm (h8 _ _ ?_); clear h8; try clear K8
          refine CW.region ?_
          refine r_move rfl ?_
          refine r_add rfl rfl rfl (wr_i64 (by omega) (by omega)) ?_
          refine r_assign rfl ?_
          refine LW.nil ?_
          refine thenE_norm ⟨rfl, ?_⟩
          exact ⟨xs.length - (i + 5), by omega, i + 5, rs ++ [⟨R1, R2, ⟨R3, R4, R5⟩⟩], _, _, _, _, rfl, by rw [List.length_append, List.length_singleton]; omega, by rw [List.length_append, List.length_singleton]; omega, rfl, (fun r hr => by
            rcases List.mem_append.1 hr with hr | hr
            · exact hok r hr
            · rw [List.mem_singleton] at hr; subst hr; exact hok1), by rw [List.flatMap_append, List.flatMap_cons, List.flatMap_nil, List.append_nil]; exact SH.sel H [0, 1, 2] (by decide) rfl⟩
      · try simp only [decide_eq_true_eq, decide_eq_false_iff_not, Bool.and_eq_true, Bool.or_eq_true, Bool.and_eq_false_iff, Bool.or_eq_false_iff, Bool.not_eq_true', Bool.not_eq_false', beq_iff_eq, bne_iff_ne, ne_eq, Decidable.not_not] at hc1
        refine CW.exit (thenE_exit (thenE_exit (blockE_hit ?_)))
        refine thenE_norm ?_
        exact ⟨rfl, rs, u, ub, g, gb, rfl, hr20, hok, SH.sel H [1, 2] (by decide) rfl⟩
    · have hg4_6P := hg4_6
      try simp only [decide_eq_true_eq, decide_eq_false_iff_not, Bool.and_eq_true, Bool.or_eq_true, Bool.and_eq_false_iff, Bool.or_eq_false_iff, Bool.not_eq_true', Bool.not_eq_false', beq_iff_eq, bne_iff_ne] at hg4_6P
      refine LW.skip rfl (fun _ e => by cases e; decide) rfl hg4_6 ?_
      refine LW.skip rfl (fun _ e => by cases e; decide) rfl hg4_6 ?_
      refine LW.skip rfl (fun _ e => by cases e; decide) rfl hg4_6 ?_
      refine r_pickF rfl rfl hg4_6 ?_
      refine LW.nil ?_
      refine thenE_norm (h7 _ _ ?_); clear h7; try clear K7
      refine CW.condF rfl (by first | rfl | assumption) ?_
      refine CW.exit (thenE_exit (thenE_exit (blockE_hit ?_)))
      refine thenE_norm ?_
      exact ⟨rfl, rs, u, ub, g, gb, rfl, hr20, hok, SH.sel H [1, 2] (by decide) rfl⟩
  try clear H
  rintro vs wJ σ ⟨rs, u, ub, g, gb, rfl, hr20, hok, H⟩
  simp only [setL, keepE, upd_get, ev, Nat.reduceEqDiff, ↓reduceIte]
  refine CW.seq (fun K18 h18 => ?_)
  refine CW.region ?_
  refine r_assign rfl ?_
  refine LW.nil ?_
  refine thenE_norm ?_
  refine cut (K := K18) [3, 4, 9] (fun σ => ?_)
  simp only [setL, keepE, upd_get, ev, Nat.reduceEqDiff, ↓reduceIte]
  refine h18 _ _ ?_; clear h18; try clear K18
  refine CW.seq (fun K19 h19 => ?_)
  refine CW.seq (fun K20 h20 => ?_)
  refine CW.region ?_
  refine r_assign rfl ?_
  refine LW.nil ?_
  refine thenE_norm (h20 _ _ ?_); clear h20; try clear K20
  refine CW.block ?_
  refine CW.loopR [3, 4] [9, 10] (fun m vs w' => ∃ k : Nat, vs = [.int .i64 (((rs.take k).flatMap rowB).length : Nat), .int .i64 k] ∧ k ≤ rs.length ∧ m = rs.length - k ∧ SH Non Any w w' [.O 53 u rs g, .O 5 ub (rs.flatMap rowB) gb]) (rs.length) ?_ ?_
  · exact ⟨0, rfl, by omega, by omega, H⟩
  try clear H
  rintro n2 vs2 wL2 σ ⟨k, rfl, hk, rfl, H⟩
  simp only [setL, keepE, upd_get, ev, Nat.reduceEqDiff, ↓reduceIte]
  refine CW.seq (fun K21 h21 => ?_)
  refine CW.seq (fun K22 h22 => ?_)
  refine CW.region ?_
  refine r_move rfl ?_
  refine r_move rfl ?_
  first
    | refine r_lenV rfl Try.underlying61 (by simp only [upd_get, ev, Nat.reduceEqDiff, ↓reduceIte] <;> rfl) (by first | assumption | exact SH.rsR H (by (repeat first | exact At.here | apply At.there); done) | exact SH.rsO H (by (repeat first | exact At.here | apply At.there); done) | exact (Rs.nil : Rs Non _ _ _)) ?_
    | refine r_len rfl Try.underlying61 rfl ?_
  refine r_lss rfl rfl rfl ?_
  refine LW.nil ?_
  refine thenE_norm (h22 _ _ ?_); clear h22; try clear K22
  refine CW.cond rfl (fun hc3 => ?_) (fun hc3 => ?_)
  · try simp only [decide_eq_true_eq, decide_eq_false_iff_not, Bool.and_eq_true, Bool.or_eq_true, Bool.and_eq_false_iff, Bool.or_eq_false_iff, Bool.not_eq_true', Bool.not_eq_false', beq_iff_eq, bne_iff_ne, ne_eq, Decidable.not_not] at hc3
    refine CW.skip ?_
    refine thenE_norm (h21 _ _ ?_); clear h21; try clear K21
    refine CW.seq (fun K23 h23 => ?_)
    refine CW.block ?_
    refine CW.seq (fun K24 h24 => ?_)
    obtain ⟨r, hr⟩ := get_of_lt (show k < rs.length by omega)
    obtain ⟨hcut1, hcut2⟩ := rows_cut hr
    have hokr := hok r (List.mem_of_getElem? hr)
    have hget := getRq_ok hokr ((rs.take k).flatMap rowB) ((rs.drop (k + 1)).flatMap rowB)
    rw [← hcut1, ← hcut2] at hget
    have hrl := rowB_len r
    have hlen : ((rs.take (k + 1)).flatMap rowB).length = ((rs.take k).flatMap rowB).length + (rowB r).length := by rw [hcut2, List.length_append]
    obtain ⟨r1, r2, ⟨r3, r4, r5⟩⟩ := r
    dsimp only at hrl
    refine CW.region ?_
    refine r_move rfl ?_
    refine r_move rfl ?_
    refine r_call rfl Try.call43 (by simp only [List.map_cons, List.map_nil, List.map_toArray, List.toList_toArray, upd_get, ev, Nat.reduceEqDiff, ↓reduceIte] <;> rfl) (GetRqS_c _ _ (SH.rsO H (i := 1) rfl)) ?_
    rintro _ w16_2 ⟨rfl, X⟩
    refine ⟨_, rfl, ?_⟩
    replace H := SH.same H X
    clear X
    rw [hget]
    dsimp only
    refine r_move rfl ?_
    refine r_extract rfl (by simp only [upd_get, ev, Nat.reduceEqDiff, ↓reduceIte] <;> rfl) (by simp only [List.getElem?_toArray, List.getElem?_cons_zero, List.getElem?_cons_succ] <;> rfl) ?_
    refine r_extract rfl (by simp only [upd_get, ev, Nat.reduceEqDiff, ↓reduceIte] <;> rfl) (by simp only [List.getElem?_toArray, List.getElem?_cons_zero, List.getElem?_cons_succ] <;> rfl) ?_
    refine r_extract rfl (by simp only [upd_get, ev, Nat.reduceEqDiff, ↓reduceIte] <;> rfl) (by simp only [List.getElem?_toArray, List.getElem?_cons_zero, List.getElem?_cons_succ] <;> rfl) ?_
    refine s_alloc (cs := [.int .i64 0, .int .i64 0, .int .i64 0, .int .i64 0, .string (ByteArray.mk #[])]) H rfl Try.zeroValue53 rfl ?_
    clear H
    intro b16_7 w16_7 H
    try dsimp only [replC, List.cons_append, List.nil_append, List.append_nil, agg, cellsL, Value.cells, List.toList_toArray, List.set_cons_zero, List.set_cons_succ, spliceL, List.take_succ_cons, List.take_zero, List.drop_succ_cons, List.drop_zero, List.length_cons, List.length_nil, Nat.reduceAdd, Row.cells, Cm.L, Rq.L] at H
    refine s_storeA H Try.sizeOf53 rfl (by simp only [upd_get, ev, Nat.reduceEqDiff, ↓reduceIte] <;> rfl) (by simp only [cellsL, agg, List.toList_toArray, Row.cells, Cm.L, Rq.L] <;> rfl) (by rfl) (by first | rfl | assumption | exact Rs.oneC (by first | assumption | exact SH.rsR H (by (repeat first | exact At.here | apply At.there); done) | exact SH.rsO H (by (repeat first | exact At.here | apply At.there); done) | exact (Rs.nil : Rs Non _ _ _)) | (simp only [List.all_cons, List.all_nil, Bool.and_true, Bool.and_eq_true, Row.cells, Cm.L, Rq.L]; (repeat' constructor) <;> first | rfl | assumption | exact Rs.oneC (by first | assumption | exact SH.rsR H (by (repeat first | exact At.here | apply At.there); done) | exact SH.rsO H (by (repeat first | exact At.here | apply At.there); done) | exact (Rs.nil : Rs Non _ _ _)))) (by (repeat first | exact At.here | apply At.there); done) (by first | (simp; done) | decide | (show _ ≤ _; decide)) ?_
    clear H
    intro w16_8 H
    try dsimp only [replC, List.cons_append, List.nil_append, List.append_nil, agg, cellsL, Value.cells, List.toList_toArray, List.set_cons_zero, List.set_cons_succ, spliceL, List.take_succ_cons, List.take_zero, List.drop_succ_cons, List.drop_zero, List.length_cons, List.length_nil, Nat.reduceAdd, Row.cells, Cm.L, Rq.L] at H
    refine r_assign rfl ?_
    refine r_assign rfl ?_
    refine LW.nil ?_
    refine thenE_norm ?_
    refine cut (K := K24) [3, 4, 9, 10, 11, 12, 13] (fun σ => ?_)
    simp only [setL, keepE, upd_get, ev, Nat.reduceEqDiff, ↓reduceIte]
    refine h24 _ _ ?_; clear h24; try clear K24
    refine CW.seq (fun K25 h25 => ?_)
    refine CW.seq (fun K26 h26 => ?_)
    refine CW.drawH [] H (List.Sublist.refl _) (by kernel_rfl) rfl ?_
    clear H
    intro w17d H
    refine DL.take (i := 0) [] rfl (by kernel_rfl) (by kernel_rfl) (by kernel_rfl) (by kernel_rfl) rfl rfl (fun u H => x_move ) H ?_
    refine DL.take (i := 1) [] rfl (by kernel_rfl) (by kernel_rfl) (by kernel_rfl) (by kernel_rfl) rfl rfl (fun u H => x_neq rfl rfl) H ?_
    refine DL.take (i := 2) [] rfl (by kernel_rfl) (by kernel_rfl) (by kernel_rfl) (by kernel_rfl) rfl rfl (fun u H => x_move ) H ?_
    refine DL.known (t := 83) (c := false) rfl (by simp) (fun hg17_2 => ?_)
    refine DL.take (i := 3) [] rfl (by kernel_rfl) (by kernel_rfl) (by kernel_rfl) (by kernel_rfl) rfl (wantE rfl rfl hg17_2) (fun u H => x_loadA Try.isAgg53 Try.sizeOf53 rfl (by first | exact SH.cells H (by (repeat first | exact At.here | apply At.there); done)) (by rfl)) H ?_
    refine DL.take (i := 4) [] rfl (by kernel_rfl) (by kernel_rfl) (by kernel_rfl) (by kernel_rfl) rfl (wantE rfl rfl hg17_2) (fun u H => x_move ) H ?_
    refine DL.take (i := 5) [] rfl (by kernel_rfl) (by kernel_rfl) (by kernel_rfl) (by kernel_rfl) rfl (wantE rfl rfl hg17_2) (fun u H => x_move ) H ?_
    refine DL.take (i := 6) [] rfl (by kernel_rfl) (by kernel_rfl) (by kernel_rfl) (by kernel_rfl) rfl (wantE rfl rfl hg17_2) (fun u H => x_indexAddrV Try.underlying61 (by simp only [upd_get, ev, Nat.reduceEqDiff, ↓reduceIte] <;> rfl) rfl (by first | assumption | exact SH.rsR H (by (repeat first | exact At.here | apply At.there); done) | exact SH.rsO H (by (repeat first | exact At.here | apply At.there); done) | exact (Rs.nil : Rs Non _ _ _)) (by exact Try.sizeOf53) (by omega) (by omega)) H ?_
    refine DL.take (i := 7) [] rfl (by kernel_rfl) (by kernel_rfl) (by kernel_rfl) (by kernel_rfl) rfl (wantE rfl rfl hg17_2) (fun u H => x_loadA Try.isAgg53 Try.sizeOf53 rfl (by first | exact Rs.cells0 (by first | assumption | exact SH.rsR H (by (repeat first | exact At.here | apply At.there); done) | exact SH.rsO H (by (repeat first | exact At.here | apply At.there); done) | exact (Rs.nil : Rs Non _ _ _)) (by assumption)) (by rfl)) H ?_
    refine DL.take (i := 8) [] rfl (by kernel_rfl) (by kernel_rfl) (by kernel_rfl) (by kernel_rfl) rfl (wantE rfl rfl hg17_2) (fun u H => x_neqG (by kernel_rfl) rfl rfl (EqA.struct Try.underlying53 (by kernel_rfl) (EqF.one rfl Try.isAgg3 rfl rfl (EqA.int Try.underlying3) (EqF.one rfl Try.isAgg3 rfl rfl (EqA.int Try.underlying3) (EqF.agg rfl Try.isAgg42 Try.sizeOf42 (EqA.struct Try.underlying42 (by kernel_rfl) (EqF.one rfl Try.isAgg3 rfl rfl (EqA.int Try.underlying3) (EqF.one rfl Try.isAgg3 rfl rfl (EqA.int Try.underlying3) (EqF.one rfl Try.isAgg9 rfl rfl (EqA.str Try.underlying9) EqF.nil)))) EqF.nil))))) H ?_
    refine DL.take (i := 9) [] rfl (by kernel_rfl) (by kernel_rfl) (by kernel_rfl) (by kernel_rfl) rfl rfl (fun u H => x_pickF rfl hg17_2) H ?_
    refine DL.take (i := 10) [] rfl (by kernel_rfl) (by kernel_rfl) (by kernel_rfl) (by kernel_rfl) rfl rfl (fun u H => x_move ) H ?_
    refine DL.known (t := 91) (c := false) rfl (by simp) (fun hg17_10 => ?_)
    refine DL.take (i := 11) [] rfl (by kernel_rfl) (by kernel_rfl) (by kernel_rfl) (by kernel_rfl) rfl (wantE rfl rfl hg17_10) (fun u H => x_move ) H ?_
    refine DL.take (i := 12) [] rfl (by kernel_rfl) (by kernel_rfl) (by kernel_rfl) (by kernel_rfl) rfl (wantE rfl rfl hg17_10) (fun u H => x_move ) H ?_
    refine DL.take (i := 13) [] rfl (by kernel_rfl) (by kernel_rfl) (by kernel_rfl) (by kernel_rfl) rfl (wantE rfl rfl hg17_10) (fun u H => x_leq rfl rfl) H ?_
    refine DL.take (i := 14) [] rfl (by kernel_rfl) (by kernel_rfl) (by kernel_rfl) (by kernel_rfl) rfl rfl (fun u H => x_pickF rfl hg17_10) H ?_
    refine DL.done (by kernel_rfl) ?_
    refine thenE_norm ?_
    refine cut (K := K26) [3, 4, 10, 12, 95] (fun σ => ?_)
    simp only [setL, keepE, upd_get, ev, Nat.reduceEqDiff, ↓reduceIte]
    refine h26 _ _ ?_; clear h26; try clear K26
    refine CW.condF rfl (decide_eq_false (by omega)) ?_
    refine CW.skip ?_
    refine thenE_norm (h25 _ _ ?_); clear h25; try clear K25
    refine CW.region ?_
    refine r_move rfl ?_
    refine r_assign rfl ?_
    refine LW.nil ?_
    refine blockE_norm ?_
    refine thenE_norm (h23 _ _ ?_); clear h23; try clear K23
    refine CW.region ?_
    refine r_move rfl ?_
    refine r_add rfl rfl rfl (wr_i64 (by omega) (by omega)) ?_
    refine r_assign rfl ?_
    refine LW.nil ?_
    refine thenE_norm ⟨rfl, ?_⟩
    exact ⟨rs.length - (k + 1), by omega, k + 1, rfl, by omega, rfl, SH.sel H [0, 1] (by decide) rfl⟩
  · try simp only [decide_eq_true_eq, decide_eq_false_iff_not, Bool.and_eq_true, Bool.or_eq_true, Bool.and_eq_false_iff, Bool.or_eq_false_iff, Bool.not_eq_true', Bool.not_eq_false', beq_iff_eq, bne_iff_ne, ne_eq, Decidable.not_not] at hc3
    refine CW.exit (thenE_exit (thenE_exit (blockE_hit ?_)))
    refine thenE_norm (h19 _ _ ?_); clear h19; try clear K19
    refine CW.seq (fun K27 h27 => ?_)
    obtain rfl : k = rs.length := by omega
    have hgend := getRq_end (rs.flatMap rowB)
    rw [List.take_length]
    refine CW.region ?_
    refine r_move rfl ?_
    refine r_move rfl ?_
    refine r_call rfl Try.call43 (by simp only [List.map_cons, List.map_nil, List.map_toArray, List.toList_toArray, upd_get, ev, Nat.reduceEqDiff, ↓reduceIte] <;> rfl) (GetRqS_c _ _ (SH.rsO H (i := 1) rfl)) ?_
    rintro _ w20_2 ⟨rfl, X⟩
    refine ⟨_, rfl, ?_⟩
    replace H := SH.same H X
    clear X
    rw [hgend]
    generalize (getRq (rs.flatMap rowB) ((rs.flatMap rowB).length : Nat)).1 = q
    obtain ⟨q1, q2, ⟨q3, q4, q5⟩⟩ := q
    refine r_move rfl ?_
    refine r_extract rfl (by simp only [upd_get, ev, Nat.reduceEqDiff, ↓reduceIte] <;> rfl) (by simp only [List.getElem?_toArray, List.getElem?_cons_zero, List.getElem?_cons_succ] <;> rfl) ?_
    refine r_extract rfl (by simp only [upd_get, ev, Nat.reduceEqDiff, ↓reduceIte] <;> rfl) (by simp only [List.getElem?_toArray, List.getElem?_cons_zero, List.getElem?_cons_succ] <;> rfl) ?_
    refine r_extract rfl (by simp only [upd_get, ev, Nat.reduceEqDiff, ↓reduceIte] <;> rfl) (by simp only [List.getElem?_toArray, List.getElem?_cons_zero, List.getElem?_cons_succ] <;> rfl) ?_
    refine s_alloc (cs := [.int .i64 0, .int .i64 0, .int .i64 0, .int .i64 0, .string (ByteArray.mk #[])]) H rfl Try.zeroValue53 rfl ?_
    clear H
    intro b20_7 w20_7 H
    try dsimp only [replC, List.cons_append, List.nil_append, List.append_nil, agg, cellsL, Value.cells, List.toList_toArray, List.set_cons_zero, List.set_cons_succ, spliceL, List.take_succ_cons, List.take_zero, List.drop_succ_cons, List.drop_zero, List.length_cons, List.length_nil, Nat.reduceAdd, Row.cells, Cm.L, Rq.L] at H
    refine s_storeA H Try.sizeOf53 rfl (by simp only [upd_get, ev, Nat.reduceEqDiff, ↓reduceIte] <;> rfl) (by simp only [cellsL, agg, List.toList_toArray, Row.cells, Cm.L, Rq.L] <;> rfl) (by rfl) (by first | rfl | assumption | exact Rs.oneC (by first | assumption | exact SH.rsR H (by (repeat first | exact At.here | apply At.there); done) | exact SH.rsO H (by (repeat first | exact At.here | apply At.there); done) | exact (Rs.nil : Rs Non _ _ _)) | (simp only [List.all_cons, List.all_nil, Bool.and_true, Bool.and_eq_true, Row.cells, Cm.L, Rq.L]; (repeat' constructor) <;> first | rfl | assumption | exact Rs.oneC (by first | assumption | exact SH.rsR H (by (repeat first | exact At.here | apply At.there); done) | exact SH.rsO H (by (repeat first | exact At.here | apply At.there); done) | exact (Rs.nil : Rs Non _ _ _)))) (by (repeat first | exact At.here | apply At.there); done) (by first | (simp; done) | decide | (show _ ≤ _; decide)) ?_
    clear H
    intro w20_8 H
    try dsimp only [replC, List.cons_append, List.nil_append, List.append_nil, agg, cellsL, Value.cells, List.toList_toArray, List.set_cons_zero, List.set_cons_succ, spliceL, List.take_succ_cons, List.take_zero, List.drop_succ_cons, List.drop_zero, List.length_cons, List.length_nil, Nat.reduceAdd, Row.cells, Cm.L, Rq.L] at H
    refine r_assign rfl ?_
    refine r_assign rfl ?_
    refine LW.nil ?_
    refine thenE_norm ?_
    refine cut (K := K27) [4, 9, 16] (fun σ => ?_)
    simp only [setL, keepE, upd_get, ev, Nat.reduceEqDiff, ↓reduceIte]
    refine h27 _ _ ?_; clear h27; try clear K27
    refine CW.seq (fun K28 h28 => ?_)
    refine CW.region ?_
    refine r_move rfl ?_
    refine r_move rfl ?_
    first
      | refine r_lenV rfl Try.underlying23 (by simp only [upd_get, ev, Nat.reduceEqDiff, ↓reduceIte] <;> rfl) (by first | assumption | exact SH.rsR H (by (repeat first | exact At.here | apply At.there); done) | exact SH.rsO H (by (repeat first | exact At.here | apply At.there); done) | exact (Rs.nil : Rs Non _ _ _)) ?_
      | refine r_len rfl Try.underlying23 rfl ?_
    refine r_eql rfl rfl rfl ?_
    refine r_move rfl ?_
    refine LW.known (t := 108) (c := true) rfl (decide_eq_true rfl) (fun hg21_5 => ?_)
    refine LW.want rfl rfl hg21_5 ?_
    refine r_move rfl ?_
    refine LW.want rfl rfl hg21_5 ?_
    refine r_eql rfl rfl rfl ?_
    refine r_pickT rfl rfl hg21_5 ?_
    refine r_move rfl ?_
    refine LW.known (t := 112) (c := true) rfl (by simp) (fun hg21_9 => ?_)
    refine LW.want rfl rfl hg21_9 ?_
    refine r_call rfl Try.call31 (by simp only [List.map_cons, List.map_nil, List.map_toArray, List.toList_toArray, upd_get, ev, Nat.reduceEqDiff, ↓reduceIte] <;> rfl) (awake4_c _) ?_
    rintro _ wa ⟨rfl, X⟩
    refine ⟨_, rfl, ?_⟩
    replace H := SH.same H X
    clear X
    refine r_pickT rfl rfl hg21_9 ?_
    refine r_assign rfl ?_
    refine LW.nil ?_
    refine thenE_norm ?_
    refine cut (K := K28) [2] (fun σ => ?_)
    simp only [setL, keepE, upd_get, ev, Nat.reduceEqDiff, ↓reduceIte]
    refine h28 _ _ ?_; clear h28; try clear K28
    refine CW.ret (ret1 Try.results14 (by simp only [upd_get, ev, Nat.reduceEqDiff, ↓reduceIte]; rfl) ?_)
    exact ⟨rfl, H.ext⟩
end Go.Proofs.Ytgcmafgcigipdaa
