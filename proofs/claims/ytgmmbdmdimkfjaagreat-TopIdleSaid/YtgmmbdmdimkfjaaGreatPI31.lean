/-
  What a host sends is put on the net; Three bytes that are no packet, read: the kernel evaluates. No statement of the claim stands here; packet.Get of three bytes of which the last is 7: no packet; Entries of a script: what is dropped, doubled, passes, falls silent
-/
import Derived.Test.YtgmmbdmdimkfjaaGreatPI30
import Derived.Test.YtgmmbdmdimkfjaaGreatPI04
import Derived.Test.YtgmmbdmdimkfjaaGreatPI05
import Derived.Test.YtgmmbdmdimkfjaaGreatPI22
import Derived.Test.YtgmmbdmdimkfjaaGreatPI28
namespace Go.Proofs.YtgmmbdmdimkfjaaGreat
set_option linter.unusedSimpArgs false
set_option linter.unusedVariables false
set_option maxRecDepth 20000
open Go.V Go.RowKit Go.ChangeShapes Go.WideShapes
structure Snd where
  dst : Int
  bytes : Value
def Snd.L (a : Snd) : List Value := [.int .i64 a.dst, a.bytes]
instance : Row Snd := ⟨2, Snd.L, ⟨0, .slice none 0 0⟩, fun _ => rfl, rfl⟩
def Snd.Good (w : World) (a : Snd) : Prop := I64 a.dst ∧ (∃ xs : List UInt8, Rs (Old w) w a.bytes xs ∧ ∀ y ∈ xs, True)
def SnR (F : Nat → Prop) (w : World) (r : Snd) (s : Int × List UInt8) : Prop := r.dst = s.1 ∧ Rs F w r.bytes s.2
theorem SnR.st {F : Nat → Prop} {rs : List Snd} {ss : List (Int × List UInt8)} : Ch.St F (fun w => All2 (SnR F w) rs ss) := fun V w w' h e hd => All2.mono (fun _ _ q => ⟨q.1, q.2.up e hd⟩) h
theorem snds_rows {F : Nat → Prop} {v : Value} {ss : List (Int × List UInt8)} {w : World} (h : SndsA F v ss w) : ∃ rs : List Snd, rs.length = ss.length ∧ Rs F w v rs ∧ All2 (SnR F w) rs ss := by
  obtain ⟨raws, h1, h2⟩ := h
  have hfl : ∀ l : List (Int × Value), flat (l.map fun r => (⟨r.1, r.2⟩ : Snd)) = l.flatMap sdC := by
    intro l
    induction l with
    | nil => rfl
    | cons r l ih => rw [List.map_cons, flat_cons, ih, List.flatMap_cons]; rfl
  have hall : ∀ {l : List (Int × Value)} {ts : List (Int × List UInt8)}, All2 (SdR F w) l ts → All2 (SnR F w) (l.map fun r => (⟨r.1, r.2⟩ : Snd)) ts := by
    intro l
    induction l with
    | nil => intro ts h; cases ts <;> exact h
    | cons r l ih =>
      intro ts h
      cases ts with
      | nil => exact h
      | cons t ts => exact ⟨h.1, ih h.2⟩
  refine ⟨raws.map fun r => ⟨r.1, r.2⟩, by rw [List.length_map]; exact h2.len, ⟨by rw [List.length_map, hfl]; exact h1, fun x hx => ?_⟩, hall h2⟩
  obtain ⟨r, hr, rfl⟩ := List.mem_map.1 hx
  obtain ⟨i, hi⟩ := List.getElem?_of_mem hr
  obtain ⟨s, hs, hq⟩ := h2.get hi
  show ([Value.int .i64 r.1, r.2].all oneC) = true
  rw [List.all_cons, List.all_cons, hq.2.oneC]; rfl
theorem netPut_ok {R : Nat} {ms : List Fl} {lost : Int} {m : Fl} (h : FlOK R ms) (hm : (m.src = -1 ∧ m.bytes.length = 3) ∨ m.bytes ∈ sentB R) : FlOK R (netPut ms lost m).1 ∧ lost ≤ (netPut ms lost m).2.1 ∧ (netPut ms lost m).2.1 ≤ lost + 1 := by
  unfold netPut
  split
  · exact ⟨h, by simp only; omega, by simp only; omega⟩
  · split
    · exact ⟨h, by simp only; omega, by simp only; omega⟩
    · refine ⟨fun x hx => ?_, by simp only; omega, by simp only; omega⟩
      rcases List.mem_append.1 hx with hx | hx
      · exact h x hx
      · rw [List.mem_singleton] at hx
        subst hx; exact hm
set_option maxHeartbeats 2000000 in
theorem put_c {R p : Nat} {s : WS} {v : Value} {ss : List (Int × List UInt8)} {Fz : Nat → Prop} {ms : List Fl} {lost : Int} {FN : Nat → Prop} (frm : Int) (w : World) (hW : Blk w p 104 (s.cells R)) (hN : NetA s.pn ms lost FN w) (hS : SndsA Fz v ss w) (hlt : ∀ b, Fz b → b < w.heap.size) (hd1 : ¬ FN p) (hd2 : ∀ b, Fz b → ¬ FN b)
    (hss : ∀ x ∈ ss, x.2 ∈ sentB R) (hl : ss.length ≤ 20) (hf : FlOK R ms) (h0 : 0 ≤ lost) (h1 : lost ≤ 100000) :
    Calls Tryz.prog 140 #[.pointer (some ⟨p, 0, none⟩), .int .i64 frm, v] w fun e w' => ∃ ms' lost' FN', e = .returned (.tuple #[]) ∧ FlOK R ms' ∧ lost ≤ lost' ∧ lost' ≤ lost + 20 ∧ SH FN Non w w' [.P FN' (NetA s.pn ms' lost' FN')] := by
  obtain ⟨rs, hrl, hRs, hall⟩ := snds_rows hS
  obtain ⟨cf, vR, vC, pc, pn, vS, en, va, vd, vk, rs', cs', gR, gC, FR, FC, Fk, ms', lost', FN', bs, gS, ga, gd, gk⟩ := s
  dsimp only [WS.cells] at hW hN ⊢
  have H := SH.objP (G := Any) hN net_st (fun w h => NetA.lt h)
  replace H := SH.argI H hW Ch.stB (fun b hb => by cases hb; exact hW.lt) (fun b hb h => hd1 (by cases hb; exact h))
  replace H := SH.argU H hRs hd2
  replace H := SH.argI H hall SnR.st hlt hd2
  refine calls_of_CW Tryz.func140 rfl Tryz.ntmps140 (Nat.le_of_ble_eq_true rfl) ?_
  simp only [argE, argFrom, Nat.reduceAdd]
  refine CW.seq fun K1 h1 => zr ?_
  refine zg (zt iM (zt iVV iM)) (zn h1 ?_); try clear h1
  refine CW.block ?_
  refine CW.loopR [0, 1, 8, 9] [10] (fun m vs w' => ∃ (i : Nat) (ms' : List Fl) (lost' : Int) (FN' : Nat → Prop), vs = [.int .i64 i] ∧ i ≤ rs.length ∧ m = rs.length - i ∧ FlOK R ms' ∧ lost ≤ lost' ∧ lost' ≤ lost + i ∧ SH FN Any w w' [.P FN' (NetA pn ms' lost' FN'), .I (fun k => k = p) (fun u => Blk u p 104 [.int .i64 R, .int .i64 (cf 0), .int .i64 (cf 1), .int .i64 (cf 2), .int .i64 (cf 3), .int .i64 (cf 4), .int .i64 (cf 5), .int .i64 (cf 6), .int .i64 (cf 7), .int .i64 (cf 8), .int .i64 (cf 9), vR, vC, .pointer (some ⟨pc, 0, none⟩), .pointer (some ⟨pn, 0, none⟩), vS, .int .i64 en, va, vd, vk]), .R (fun b => Fz b ∧ b < w.heap.size) v rs, .I Fz (fun u => All2 (SnR Fz u) rs ss)]) (rs.length) ?_ ?_
  · exact ⟨0, _, _, _, rfl, by omega, by omega, hf, by omega, by omega, H⟩
  try clear H
  rintro n1 vs1 wL1 σ ⟨i, ms1, lost1, FN1, rfl, hi, rfl, hf1, hl1, hl2, H⟩
  refine zg zm ?_
  refine CW.seq fun K2 h2 => zr ?_
  refine zg ilt (zn h2 ?_); try clear h2
  refine CW.seq (fun K3 h3 => ?_)
  refine CW.cond rfl (fun hc1 => ?_) (fun hc1 => ?_)
  · try simp only [zb] at hc1
    refine CW.skip ?_
    refine thenE_norm (h3 _ _ ?_); clear h3; try clear K3
    refine CW.seq (fun K4 h4 => ?_)
    refine CW.block ?_
    refine CW.seq (fun K5 h5 => ?_)
    obtain ⟨x, hx⟩ := get_of_lt (show i < rs.length by omega)
    obtain ⟨y, hy, hxy⟩ := hall.get hx
    have hy2 := hss y (List.mem_of_getElem? hy)
    have hb := hxy.2
    refine CW.region ?_
    refine zg iI ?_
    refine zg (zk (r_loadA rfl Tryz.isAgg312 Tryz.sizeOf312 rfl (by first | exact Rs.cells0 RS (by assumption)) (by rfl))) ?_
    refine s_alloc (cs := [.int .i64 0, .slice none 0 0]) H rfl Tryz.zeroValue312 rfl ?_
    clear H
    intro b2_2 w2_2 H
    try dsimp only [replC, List.cons_append, List.nil_append, List.append_nil, agg, cellsL, Value.cells, List.toList_toArray, List.set_cons_zero, List.set_cons_succ, spliceL, List.take_succ_cons, List.take_zero, List.drop_succ_cons, List.drop_zero, List.length_cons, List.length_nil, Nat.reduceAdd, Row.cells, Flight.L, Hd.L, Snd.L] at H
    refine s_storeA H Tryz.sizeOf312 rfl EV (by simp only [cellsL, agg, List.toList_toArray, Row.cells, Flight.L, Hd.L, Snd.L] <;> rfl) (by rfl) (by first | rfl | assumption | exact Rs.oneC RS | (simp only [List.all_cons, List.all_nil, Bool.and_true, Bool.and_eq_true, Row.cells, Flight.L, Hd.L, Snd.L]; (repeat' constructor) <;> first | rfl | assumption | exact Rs.oneC RS)) AT (by first | (simp; done) | decide | (show _ ≤ _; decide)) ?_
    clear H
    intro w2_3 H
    try dsimp only [replC, List.cons_append, List.nil_append, List.append_nil, agg, cellsL, Value.cells, List.toList_toArray, List.set_cons_zero, List.set_cons_succ, spliceL, List.take_succ_cons, List.take_zero, List.drop_succ_cons, List.drop_zero, List.length_cons, List.length_nil, Nat.reduceAdd, Row.cells, Flight.L, Hd.L, Snd.L] at H
    refine LW.nil ?_
    refine thenE_norm (h5 _ _ ?_); clear h5; try clear K5
    refine CW.drawP [1, 2, 3, 4] [] H (by dsimp only [pickC, nthC] <;> rfl) SB (by kernel_rfl) rfl ?_
    clear H
    intro w3d H
    refine DL.take (i := 0) [] rfl (by kernel_rfl) (by kernel_rfl) (by kernel_rfl) (by kernel_rfl) rfl rfl (fun u H => x_move ) (SH.sub H SB) ?_
    refine DL.take (i := 1) [] rfl (by kernel_rfl) (by kernel_rfl) (by kernel_rfl) (by kernel_rfl) rfl rfl (fun u H => x_nilCheck rfl) (SH.sub H SB) ?_
    refine DL.take (i := 2) [] rfl (by kernel_rfl) (by kernel_rfl) (by kernel_rfl) (by kernel_rfl) rfl rfl (fun u H => x_fieldAddrO Tryz.underlying104 rfl Tryz.sizeOf95 (by decide) (show _ = 14 from rfl) rfl) (SH.sub H SB) ?_
    refine DL.take (i := 3) [] rfl (by kernel_rfl) (by kernel_rfl) (by kernel_rfl) (by kernel_rfl) rfl rfl (fun u H => x_load Tryz.isAgg95 rfl (by first | exact SH.cellB H AT (by rfl) | exact SH.cellI H AT (by rfl) | assumption)) (SH.sub H SB) ?_
    refine DL.take (i := 4) [] rfl (by kernel_rfl) (by kernel_rfl) (by kernel_rfl) (by kernel_rfl) rfl rfl (fun u H => x_move ) (SH.sub H SB) ?_
    refine DL.take (i := 5) [] rfl (by kernel_rfl) (by kernel_rfl) (by kernel_rfl) (by kernel_rfl) rfl rfl (fun u H => x_fieldAddrO Tryz.underlying312 rfl Tryz.sizeOf3 (by decide) (show _ = 0 from rfl) rfl) (SH.sub H SB) ?_
    refine DL.take (i := 6) [] rfl (by kernel_rfl) (by kernel_rfl) (by kernel_rfl) (by kernel_rfl) rfl rfl (fun u H => x_load Tryz.isAgg3 rfl (by first | exact SH.cellB H AT (by rfl) | assumption)) (SH.sub H SB) ?_
    refine DL.take (i := 7) [] rfl (by kernel_rfl) (by kernel_rfl) (by kernel_rfl) (by kernel_rfl) rfl rfl (fun u H => x_move ) (SH.sub H SB) ?_
    refine DL.take (i := 8) [] rfl (by kernel_rfl) (by kernel_rfl) (by kernel_rfl) (by kernel_rfl) rfl rfl (fun u H => x_nilCheck rfl) (SH.sub H SB) ?_
    refine DL.take (i := 9) [] rfl (by kernel_rfl) (by kernel_rfl) (by kernel_rfl) (by kernel_rfl) rfl rfl (fun u H => x_fieldAddrO Tryz.underlying104 rfl Tryz.sizeOf3 (by decide) (show _ = 16 from rfl) rfl) (SH.sub H SB) ?_
    refine DL.take (i := 10) [] rfl (by kernel_rfl) (by kernel_rfl) (by kernel_rfl) (by kernel_rfl) rfl rfl (fun u H => x_load Tryz.isAgg3 rfl (by first | exact SH.cellB H AT (by rfl) | exact SH.cellI H AT (by rfl) | assumption)) (SH.sub H SB) ?_
    refine DL.take (i := 11) [] rfl (by kernel_rfl) (by kernel_rfl) (by kernel_rfl) (by kernel_rfl) rfl rfl (fun u H => x_fieldAddrO Tryz.underlying312 rfl Tryz.sizeOf22 (by decide) (show _ = 1 from rfl) rfl) (SH.sub H SB) ?_
    refine DL.take (i := 12) [] rfl (by kernel_rfl) (by kernel_rfl) (by kernel_rfl) (by kernel_rfl) rfl rfl (fun u H => x_load Tryz.isAgg22 rfl (by first | exact SH.cellB H AT (by rfl) | assumption)) (SH.sub H SB) ?_
    refine DL.take (i := 13) [] rfl (by kernel_rfl) (by kernel_rfl) (by kernel_rfl) (by kernel_rfl) rfl rfl (fun u H => x_buildQ Tryz.underlying180 Tryz.zeroValue180 rfl (pl := [(0, 1), (1, 1), (2, 1), (3, 1)]) (by intro w; simp [go_sem]) (qs := [(0, [_]), (1, [_]), (2, [_]), (3, [_])]) (cs := [_, _, _, _]) ⟨rfl, cells_one EV (by first | rfl | exact Rs.oneC RS), rfl, cells_one EV (by first | rfl | exact Rs.oneC RS), rfl, cells_one EV (by first | rfl | exact Rs.oneC RS), rfl, cells_one EV (by first | rfl | exact Rs.oneC RS), trivial⟩ rfl) (SH.sub H SB) ?_
    refine DL.one (i := 14) (by kernel_rfl) rfl rfl ?_
    refine r_call rfl Tryz.call155 HS (Put_c ⟨frm, x.dst, en, x.bytes⟩ _ (SH.prop H (i := 0) rfl) (by
  obtain ⟨y', hy', hq⟩ := (SH.propI H (i := 3) rfl).get hx
  rw [hy] at hy'; cases hy'
  exact hq.2) (fun b h1 h2 => (SH.val H).apart (i := 0) (j := 3) rfl rfl (by decide) (.inl trivial) b h2 h1) (by omega) (by omega)) ?_
    rintro _ w3_14 ⟨FN3_14, rfl, K⟩
    refine ⟨_, rfl, ?_⟩
    replace H := SH.updP H (i := 0) rfl K
    clear K
    try dsimp only [replC, List.cons_append, List.nil_append, List.append_nil] at H
    refine LW.nil (thenE_norm ⟨fun _ => (SH.sub H SB), ?_⟩)
    refine DL.done (by kernel_rfl) ?_
    refine blockE_norm ?_
    refine thenE_norm (h4 _ _ ?_); clear h4; try clear K4
    refine CW.region ?_
    refine zg (zt iP iM) ?_
    refine LW.nil ?_
    refine thenE_norm ⟨rfl, ?_⟩
    obtain ⟨q1, q2, q3⟩ := netPut_ok (lost := lost1) hf1 (m := ⟨frm, x.dst, en, y.2⟩) (.inr hy2)
    exact ⟨_, by omega, i + 1, (netPut ms1 lost1 ⟨frm, x.dst, en, y.2⟩).1, (netPut ms1 lost1 ⟨frm, x.dst, en, y.2⟩).2.1, _, rfl, by omega, rfl, q1, by omega, by omega, SH.sel H [0, 1, 2, 3] (by decide) rfl⟩
  · try simp only [zb] at hc1
    refine CW.exit (thenE_exit (thenE_exit (blockE_hit ?_)))
    refine end0 Tryz.results140 ?_
    exact ⟨_, _, _, rfl, hf1, hl1, by omega, SH.give (SH.sel H [0] (by decide) rfl) (List.Sublist.refl _) ⟨trivial, trivial⟩⟩
end Go.Proofs.YtgmmbdmdimkfjaaGreat
namespace Go.Proofs.YtgmmbdmdimkfjaaGreat
set_option maxRecDepth 100000
open Go.V
def injT : List AO := [.cells [.exp .u8 (.sym 1), .exp .u8 (.sym 2), b8 7] 5]
def injR : AV := .tup [.agg (pkc 0 0), nI 4]
def okInj (C : Caller) : Bool := match C 154 [.sl 0 0 3 (some 3) 1] (stT injT []) with
  | some outs => outs.all fun o => avEq o.1 injR && sameObjs o.2 (enumL 0 injT)
  | none => false
theorem hInj : okInj (evO Tryz.prog noneO) = true := by kernel_rfl
end Go.Proofs.YtgmmbdmdimkfjaaGreat
namespace Go.Proofs.YtgmmbdmdimkfjaaGreat
set_option linter.unusedSimpArgs false
set_option linter.unusedVariables false
open Go.V Go.RowKit Go.ChangeShapes Go.WideShapes
/-- The packet without anything. -/
def pktL : List Value := [i64v 0, i64v 0, i64v 0, i64v 0, i64v 0, i64v 0, i64v 0, i64v 0, .string (ByteArray.mk #[]), i64v 0, i64v 0, i64v 0, i64v 0, i64v 0, .slice none 0 0, .bool false, i64v 0, i64v 0, i64v 0, i64v 0, .slice none 0 0, i64v 0, i64v 0, i64v 0, i64v 0, i64v 0, .slice none 0 0, i64v 0, i64v 0, i64v 0, i64v 0, i64v 0, i64v 0, .slice none 0 0, .slice none 0 0, .slice none 0 0]
def pkt0 : Value := .agg pktL.toArray
theorem pkt0_ok {A : NM} {v : Value} (h : RV A injR v) : v = .tuple #[pkt0, .int .i64 4] := by
  have h2 : RV A injR (.tuple #[pkt0, .int .i64 4]) := by
    simp only [injR, RV, RVs, nI]
    refine ⟨_, rfl, _, _, rfl, ⟨pktL, rfl, ?_⟩, _, _, rfl, rfl, rfl⟩
    simp only [pkc, rep, List.cons_append, List.nil_append, n0, nl, nI, pktL, i64v, RVs, RV]
    iterate 36 first | exact rfl | refine ⟨_, _, rfl, rfl, ?_⟩
    all_goals rfl
  exact RV.one injR _ _ rfl h h2
theorem GetInj_c {b : Nat} {x y : UInt8} (w : World) (hb : Blk w b 5 [u8v x, u8v y, u8v 7]) :
    Calls Tryz.prog 154 #[.slice (some ⟨b, 0, none⟩) 3 3] w fun en w' => en = .returned (.tuple #[pkt0, .int .i64 4]) ∧ Ext0 w w' := by
  have hok := hInj
  unfold okInj at hok
  split at hok
  · rename_i outs hc
    have hlt := hb.lt
    have hcell : RVs ⟨fun n => if n = 0 then some (b, 0, 3) else none, fun i => if i = 1 then (x.toNat : Int) else (y.toNat : Int)⟩ [.exp .u8 (.sym 1), .exp .u8 (.sym 2), b8 7] [u8v x, u8v y, u8v 7] := by
      simp only [RVs, RV, IT.ev, b8, u8v]
      exact ⟨_, _, rfl, rfl, _, _, rfl, rfl, _, _, rfl, rfl, rfl⟩
    have H : RW (fun k => k = b) w ⟨fun n => if n = 0 then some (b, 0, 3) else none, fun i => if i = 1 then (x.toNat : Int) else (y.toNat : Int)⟩ (stT injT []) w := by
      refine ⟨Ext.refl _ _, ?_, ?_, ?_, ?_, fun q hq => (by cases hq), ?_⟩
      · intro n hn
        have := stT_none hn.2
        have : 1 ≤ n := this
        show (if n = 0 then some (b, 0, 3) else none) = none
        rw [if_neg (by omega)]
      · intro n c p z hn
        simp only at hn
        split at hn
        · cases hn; exact ⟨.inl rfl, hlt⟩
        · cases hn
      · intro n o hn
        have h1 := stT_get hn
        cases n with
        | zero =>
          cases h1
          exact ⟨b, 0, 3, #[u8v x, u8v y, u8v 7], rfl, hb, rfl, by decide, hcell⟩
        | succ n => cases h1
      · intro n m c p z q y' o o' hnm hn hm _ _
        simp only at hn hm
        split at hn
        · split at hm
          · omega
          · cases hm
        · cases hn
      · intro n c p z hn
        simp only at hn
        split at hn
        · cases hn; rfl
        · cases hn
    refine Calls.mono (((evOK noneO_ok) (fun k => k = b) w _ _ _ _ hc).2 _ [.slice (some ⟨b, 0, none⟩) 3 3] w (by
      simp only [RVs, RV]
      exact ⟨_, _, rfl, ⟨b, 0, 3, 3, rfl, rfl, by omega, by simp [maxLen], by omega, by omega, .inl rfl⟩, rfl⟩) H) ?_
    rintro en w' ⟨o, ho, B, hB, hen, HW⟩
    have h1 := List.all_eq_true.1 hok o ho
    rw [Bool.and_eq_true] at h1
    have h2 := avEq_ok _ _ h1.1
    rw [h2] at hen
    obtain ⟨v, rfl, hv⟩ := hen.ret rfl
    have h3 := sameObjs_ok h1.2 (0, _) (List.mem_cons_self ..)
    obtain ⟨b', p, z, c, h4, h5, h6, h7, h8⟩ := HW.obj 0 _ h3
    have h9 := hB.1 0 (b, 0, 3) rfl
    rw [h4] at h9
    cases h9
    have h10 := RVs.up hB _ _ hcell
    have h11 := RVs.one _ _ _ rfl h8 h10
    have hcl : c.toList.length = 3 := by simpa using h6
    have h12 : c.toList = [u8v x, u8v y, u8v 7] := by
      rw [List.drop_zero] at h11
      rw [← h11]
      exact (List.take_of_length_le (by rw [hcl]; decide)).symm
    have h13 : c = #[u8v x, u8v y, u8v 7] := by
      rw [← Array.toArray_toList (xs := c), h12]
    refine ⟨by rw [pkt0_ok hv], HW.ext.os, HW.ext.tape, HW.ext.output, HW.ext.size, fun k hk _ => ?_⟩
    by_cases e : k = b
    · subst e
      rw [h5, h13]
      exact hb.symm
    · exact HW.ext.block k hk e
  · cases hok
end Go.Proofs.YtgmmbdmdimkfjaaGreat
namespace Go.Proofs.YtgmmbdmdimkfjaaGreat
set_option linter.unusedSimpArgs false
set_option linter.unusedVariables false
set_option maxRecDepth 20000
open Go.V Go.RowKit Go.ChangeShapes Go.WideShapes
structure Ev where
  kind : Int
  host : Int
  at_ : Int
  n : Int
  rate : Nat
  cmd : Int
  name : ByteArray
  bytes : Value
def Ev.L (a : Ev) : List Value := [.int .i64 a.kind, .int .i64 a.host, .int .i64 a.at_, .int .i64 a.n, .float .f64 a.rate, .int .i64 a.cmd, .string a.name, a.bytes]
instance : Row Ev := ⟨8, Ev.L, ⟨0, 0, 0, 0, 0, 0, ByteArray.mk #[], .slice none 0 0⟩, fun _ => rfl, rfl⟩
theorem netCut_ok {R : Nat} {ms : List Fl} {i : Int} (h : FlOK R ms) : FlOK R (netCut ms i) := by
  unfold netCut
  split
  · intro m hm
    rcases List.mem_append.1 hm with hm | hm
    · exact h m (List.mem_of_mem_take hm)
    · exact h m (List.mem_of_mem_drop hm)
  · exact h
theorem netAt_ok {R : Nat} {ms : List Fl} {i : Int} (h : FlOK R ms) (ht : (netAt ms i).2 = true) : ((netAt ms i).1.src = -1 ∧ (netAt ms i).1.bytes.length = 3) ∨ (netAt ms i).1.bytes ∈ sentB R := by
  unfold netAt at ht ⊢
  by_cases hi : 0 ≤ i ∧ i < ms.length
  · rw [if_pos hi]
    simp only
    obtain ⟨m, hm⟩ := get_of_lt (show i.toNat < ms.length by omega)
    rw [List.getD_eq_getElem?_getD, hm]
    exact h m (List.mem_of_getElem? hm)
  · rw [if_neg hi] at ht
    cases ht
theorem netTwice_ok {R : Nat} {ms : List Fl} {lost i : Int} (h : FlOK R ms) : FlOK R (netTwice ms lost i).1 ∧ lost ≤ (netTwice ms lost i).2.1 ∧ (netTwice ms lost i).2.1 ≤ lost + 1 := by
  unfold netTwice
  split
  · rename_i ht
    exact netPut_ok h (netAt_ok h ht)
  · exact ⟨h, by simp only; omega, by simp only; omega⟩
set_option maxHeartbeats 1000000 in
theorem pass_c {R C p k j : Nat} {F : Nat → Prop} (a : Ev) (w : World) (h : WorldA R C p k j F w) (h0 : 0 ≤ a.n) (h1 : a.n ≤ 8) : Calls Tryz.prog 98 #[.pointer (some ⟨p, 0, none⟩), agg a] w fun e w' => ∃ x F', e = .returned (.int .i64 x) ∧ SH F Non w w' [.P F' (WorldA R C p k (j + 1) F')] := by
  obtain ⟨⟨cf, vR, vC, pc, pn, vS, en, va, vd, vk, rs, cs, gR, gC, FR, FC, Fk, ms, lost, FN, bs, gS, ga, gd, gk⟩, hok, hA⟩ := h
  have H := SH.obj (G := Any) hA
  dsimp only [WS.L, WS.cells] at H
  refine calls_of_CW Tryz.func98 rfl Tryz.ntmps98 (Nat.le_of_ble_eq_true rfl) ?_
  simp only [argE, argFrom, Nat.reduceAdd]
  refine CW.seq fun K1 h1 => zr ?_
  refine s_box H rfl EV rfl ?_
  clear H
  intro b0_0 w0_0 H
  try dsimp only [replC, List.cons_append, List.nil_append, List.append_nil, agg, cellsL, Value.cells, List.toList_toArray, List.set_cons_zero, List.set_cons_succ, spliceL, List.take_succ_cons, List.take_zero, List.drop_succ_cons, List.drop_zero, List.length_cons, List.length_nil, Nat.reduceAdd, Row.cells, Flight.L, Hd.L, Snd.L, Ev.L] at H
  refine zg iA (zn h1 ?_); try clear h1
  refine CW.seq (fun K2 h2 => ?_)
  refine CW.drawP [0, 1, 2, 3, 4, 6, 7, 8, 9, 10, 11] [] H (by dsimp only [pickC, nthC] <;> rfl) SB (by kernel_rfl) rfl ?_
  clear H
  intro w1d H
  refine DL.take (i := 0) [] rfl (by kernel_rfl) (by kernel_rfl) (by kernel_rfl) (by kernel_rfl) rfl rfl (fun u H => x_move ) (SH.sub H SB) ?_
  refine DL.take (i := 1) [] rfl (by kernel_rfl) (by kernel_rfl) (by kernel_rfl) (by kernel_rfl) rfl rfl (fun u H => x_nilCheck rfl) (SH.sub H SB) ?_
  refine DL.take (i := 2) [] rfl (by kernel_rfl) (by kernel_rfl) (by kernel_rfl) (by kernel_rfl) rfl rfl (fun u H => x_fieldAddrO Tryz.underlying104 rfl Tryz.sizeOf93 (by decide) (show _ = 13 from rfl) rfl) (SH.sub H SB) ?_
  refine DL.take (i := 3) [] rfl (by kernel_rfl) (by kernel_rfl) (by kernel_rfl) (by kernel_rfl) rfl rfl (fun u H => x_load Tryz.isAgg93 rfl (by first | exact SH.cellB H AT (by rfl) | exact SH.cellI H AT (by rfl) | assumption)) (SH.sub H SB) ?_
  refine DL.take (i := 4) [] rfl (by kernel_rfl) (by kernel_rfl) (by kernel_rfl) (by kernel_rfl) rfl rfl (fun u H => x_fieldAddrO Tryz.underlying35 rfl Tryz.sizeOf3 (by decide) (show _ = 3 from rfl) rfl) (SH.sub H SB) ?_
  refine DL.take (i := 5) [] rfl (by kernel_rfl) (by kernel_rfl) (by kernel_rfl) (by kernel_rfl) rfl rfl (fun u H => x_load Tryz.isAgg3 rfl (by first | exact SH.cellB H AT (by rfl) | assumption)) (SH.sub H SB) ?_
  refine DL.one (i := 6) (by kernel_rfl) rfl rfl ?_
  refine r_call rfl Tryz.call150 HS (ClockPass_c _ _ (SH.prop H AT) (by omega) (by omega)) ?_
  rintro _ w1_6 ⟨v1_6, x1_6, F1_6, rfl, K⟩
  refine ⟨_, rfl, ?_⟩
  replace H := SH.updP H AT K
  clear K
  try dsimp only [replC, List.cons_append, List.nil_append, List.append_nil] at H
  refine LW.nil (thenE_norm ⟨fun _ => (SH.sub H SB), ?_⟩)
  refine DL.take (i := 7) [] rfl (by kernel_rfl) (by kernel_rfl) (by kernel_rfl) (by kernel_rfl) rfl rfl (fun u H => x_move ) (SH.sub H SB) ?_
  refine DL.take (i := 8) [] rfl (by kernel_rfl) (by kernel_rfl) (by kernel_rfl) (by kernel_rfl) rfl rfl (fun u H => x_extract EV (by simp only [List.getElem?_toArray, List.getElem?_cons_zero, List.getElem?_cons_succ] <;> rfl)) (SH.sub H SB) ?_
  refine DL.take (i := 9) [] rfl (by kernel_rfl) (by kernel_rfl) (by kernel_rfl) (by kernel_rfl) rfl rfl (fun u H => x_extract EV (by simp only [List.getElem?_toArray, List.getElem?_cons_zero, List.getElem?_cons_succ] <;> rfl)) (SH.sub H SB) ?_
  refine DL.take (i := 10) [] rfl (by kernel_rfl) (by kernel_rfl) (by kernel_rfl) (by kernel_rfl) rfl rfl (fun u H => x_assign ) (SH.sub H SB) ?_
  refine DL.take (i := 11) [] rfl (by kernel_rfl) (by kernel_rfl) (by kernel_rfl) (by kernel_rfl) rfl rfl (fun u H => x_assign ) (SH.sub H SB) ?_
  refine DL.done (by kernel_rfl) ?_
  refine thenE_norm ?_
  refine cut (K := K2) [6] (fun σ => ?_)
  refine zg zm ?_
  refine h2 _ _ ?_; clear h2; try clear K2
  refine CW.seq fun K3 h3 => zr ?_
  refine zg (zt iM iA) (zn h3 ?_); try clear h3
  refine CW.ret (ret1 Tryz.results98 EV ?_)
  obtain ⟨F', K⟩ := WorldA.mk (k := k) (j := j + 1) ⟨cf, vR, vC, pc, pn, vS, en, va, vd, vk, rs, cs, gR, gC, FR, FC, F1_6, ms, lost, FN, bs, gS, ga, gd, gk⟩ ⟨hok.1, hok.2, hok.3, hok.4, hok.5, hok.6, hok.7, hok.8, hok.9, hok.10, hok.11, hok.12, by have := hok.13; show lost ≤ _; simp only at this; omega⟩ (SH.sel H [0, 1, 2, 3, 4, 5, 6, 7, 8, 9, 10] (by decide) rfl)
  exact ⟨_, _, rfl, K⟩
set_option maxHeartbeats 1000000 in
theorem rate_c {R C p k j : Nat} {F : Nat → Prop} (a : Ev) (w : World) (h : WorldA R C p k j F w) (hr : a.rate ∈ ratesL) : Calls Tryz.prog 99 #[.pointer (some ⟨p, 0, none⟩), agg a] w fun e w' => ∃ x F', e = .returned (.int .i64 x) ∧ SH F Non w w' [.P F' (WorldA R C p k (j + 1) F')] := by
  obtain ⟨⟨cf, vR, vC, pc, pn, vS, en, va, vd, vk, rs, cs, gR, gC, FR, FC, Fk, ms, lost, FN, bs, gS, ga, gd, gk⟩, hok, hA⟩ := h
  have H := SH.obj (G := Any) hA
  dsimp only [WS.L, WS.cells] at H
  refine calls_of_CW Tryz.func99 rfl Tryz.ntmps99 (Nat.le_of_ble_eq_true rfl) ?_
  simp only [argE, argFrom, Nat.reduceAdd]
  refine CW.seq fun K1 h1 => zr ?_
  refine s_box H rfl EV rfl ?_
  clear H
  intro b0_0 w0_0 H
  try dsimp only [replC, List.cons_append, List.nil_append, List.append_nil, agg, cellsL, Value.cells, List.toList_toArray, List.set_cons_zero, List.set_cons_succ, spliceL, List.take_succ_cons, List.take_zero, List.drop_succ_cons, List.drop_zero, List.length_cons, List.length_nil, Nat.reduceAdd, Row.cells, Flight.L, Hd.L, Snd.L, Ev.L] at H
  refine zg iA (zn h1 ?_); try clear h1
  refine CW.seq (fun K2 h2 => ?_)
  refine CW.drawP [0, 1, 2, 3, 4, 6, 7, 8, 9, 10, 11] [] H (by dsimp only [pickC, nthC] <;> rfl) SB (by kernel_rfl) rfl ?_
  clear H
  intro w1d H
  refine DL.take (i := 0) [] rfl (by kernel_rfl) (by kernel_rfl) (by kernel_rfl) (by kernel_rfl) rfl rfl (fun u H => x_move ) (SH.sub H SB) ?_
  refine DL.take (i := 1) [] rfl (by kernel_rfl) (by kernel_rfl) (by kernel_rfl) (by kernel_rfl) rfl rfl (fun u H => x_nilCheck rfl) (SH.sub H SB) ?_
  refine DL.take (i := 2) [] rfl (by kernel_rfl) (by kernel_rfl) (by kernel_rfl) (by kernel_rfl) rfl rfl (fun u H => x_fieldAddrO Tryz.underlying104 rfl Tryz.sizeOf93 (by decide) (show _ = 13 from rfl) rfl) (SH.sub H SB) ?_
  refine DL.take (i := 3) [] rfl (by kernel_rfl) (by kernel_rfl) (by kernel_rfl) (by kernel_rfl) rfl rfl (fun u H => x_load Tryz.isAgg93 rfl (by first | exact SH.cellB H AT (by rfl) | exact SH.cellI H AT (by rfl) | assumption)) (SH.sub H SB) ?_
  refine DL.take (i := 4) [] rfl (by kernel_rfl) (by kernel_rfl) (by kernel_rfl) (by kernel_rfl) rfl rfl (fun u H => x_fieldAddrO Tryz.underlying35 rfl Tryz.sizeOf3 (by decide) (show _ = 1 from rfl) rfl) (SH.sub H SB) ?_
  refine DL.take (i := 5) [] rfl (by kernel_rfl) (by kernel_rfl) (by kernel_rfl) (by kernel_rfl) rfl rfl (fun u H => x_load Tryz.isAgg3 rfl (by first | exact SH.cellB H AT (by rfl) | assumption)) (SH.sub H SB) ?_
  refine DL.take (i := 6) [] rfl (by kernel_rfl) (by kernel_rfl) (by kernel_rfl) (by kernel_rfl) rfl rfl (fun u H => x_fieldAddrO Tryz.underlying35 rfl Tryz.sizeOf33 (by decide) (show _ = 4 from rfl) rfl) (SH.sub H SB) ?_
  refine DL.take (i := 7) [] rfl (by kernel_rfl) (by kernel_rfl) (by kernel_rfl) (by kernel_rfl) rfl rfl (fun u H => x_load Tryz.isAgg33 rfl (by first | exact SH.cellB H AT (by rfl) | assumption)) (SH.sub H SB) ?_
  refine DL.one (i := 8) (by kernel_rfl) rfl rfl ?_
  refine r_call rfl Tryz.call151 HS (ClockSet_c _ _ _ (SH.prop H AT) (by assumption)) ?_
  rintro _ w1_8 ⟨x1_8, F1_8, rfl, K⟩
  refine ⟨_, rfl, ?_⟩
  replace H := SH.updP H AT K
  clear K
  try dsimp only [replC, List.cons_append, List.nil_append, List.append_nil] at H
  refine LW.nil (thenE_norm ⟨fun _ => (SH.sub H SB), ?_⟩)
  refine DL.take (i := 9) [] rfl (by kernel_rfl) (by kernel_rfl) (by kernel_rfl) (by kernel_rfl) rfl rfl (fun u H => x_assign ) (SH.sub H SB) ?_
  refine DL.done (by kernel_rfl) ?_
  refine thenE_norm ?_
  refine cut (K := K2) [4] (fun σ => ?_)
  refine zg zm ?_
  refine h2 _ _ ?_; clear h2; try clear K2
  refine CW.ret (ret1 Tryz.results99 EV ?_)
  obtain ⟨F', K⟩ := WorldA.mk (k := k) (j := j + 1) ⟨cf, vR, vC, pc, pn, vS, en, va, vd, vk, rs, cs, gR, gC, FR, FC, F1_8, ms, lost, FN, bs, gS, ga, gd, gk⟩ ⟨hok.1, hok.2, hok.3, hok.4, hok.5, hok.6, hok.7, hok.8, hok.9, hok.10, hok.11, hok.12, by have := hok.13; show lost ≤ _; simp only at this; omega⟩ (SH.sel H [0, 1, 2, 3, 4, 5, 6, 7, 8, 9, 10] (by decide) rfl)
  exact ⟨_, _, rfl, K⟩
set_option maxHeartbeats 1000000 in
theorem twice_c {R C p k j : Nat} {F : Nat → Prop} (a : Ev) (w : World) (h : WorldA R C p k j F w) (hj : j ≤ 1000) : Calls Tryz.prog 97 #[.pointer (some ⟨p, 0, none⟩), agg a] w fun e w' => ∃ x F', e = .returned (.int .i64 x) ∧ SH F Non w w' [.P F' (WorldA R C p k (j + 1) F')] := by
  obtain ⟨⟨cf, vR, vC, pc, pn, vS, en, va, vd, vk, rs, cs, gR, gC, FR, FC, Fk, ms, lost, FN, bs, gS, ga, gd, gk⟩, hok, hA⟩ := h
  have H := SH.obj (G := Any) hA
  have hl0 : 0 ≤ lost := hok.l0
  have hl1 : lost ≤ 20 * j := hok.l1
  dsimp only [WS.L, WS.cells] at H
  refine calls_of_CW Tryz.func97 rfl Tryz.ntmps97 (Nat.le_of_ble_eq_true rfl) ?_
  simp only [argE, argFrom, Nat.reduceAdd]
  refine CW.seq fun K1 h1 => zr ?_
  refine s_box H rfl EV rfl ?_
  clear H
  intro b0_0 w0_0 H
  try dsimp only [replC, List.cons_append, List.nil_append, List.append_nil, agg, cellsL, Value.cells, List.toList_toArray, List.set_cons_zero, List.set_cons_succ, spliceL, List.take_succ_cons, List.take_zero, List.drop_succ_cons, List.drop_zero, List.length_cons, List.length_nil, Nat.reduceAdd, Row.cells, Flight.L, Hd.L, Snd.L, Ev.L] at H
  refine zg iA (zn h1 ?_); try clear h1
  refine CW.seq (fun K2 h2 => ?_)
  refine CW.drawP [0, 1, 2, 3, 4, 5, 7, 8, 9, 10, 11] [] H (by dsimp only [pickC, nthC] <;> rfl) SB (by kernel_rfl) rfl ?_
  clear H
  intro w1d H
  refine DL.take (i := 0) [] rfl (by kernel_rfl) (by kernel_rfl) (by kernel_rfl) (by kernel_rfl) rfl rfl (fun u H => x_move ) (SH.sub H SB) ?_
  refine DL.take (i := 1) [] rfl (by kernel_rfl) (by kernel_rfl) (by kernel_rfl) (by kernel_rfl) rfl rfl (fun u H => x_nilCheck rfl) (SH.sub H SB) ?_
  refine DL.take (i := 2) [] rfl (by kernel_rfl) (by kernel_rfl) (by kernel_rfl) (by kernel_rfl) rfl rfl (fun u H => x_fieldAddrO Tryz.underlying104 rfl Tryz.sizeOf95 (by decide) (show _ = 14 from rfl) rfl) (SH.sub H SB) ?_
  refine DL.take (i := 3) [] rfl (by kernel_rfl) (by kernel_rfl) (by kernel_rfl) (by kernel_rfl) rfl rfl (fun u H => x_load Tryz.isAgg95 rfl (by first | exact SH.cellB H AT (by rfl) | exact SH.cellI H AT (by rfl) | assumption)) (SH.sub H SB) ?_
  refine DL.take (i := 4) [] rfl (by kernel_rfl) (by kernel_rfl) (by kernel_rfl) (by kernel_rfl) rfl rfl (fun u H => x_fieldAddrO Tryz.underlying35 rfl Tryz.sizeOf3 (by decide) (show _ = 2 from rfl) rfl) (SH.sub H SB) ?_
  refine DL.take (i := 5) [] rfl (by kernel_rfl) (by kernel_rfl) (by kernel_rfl) (by kernel_rfl) rfl rfl (fun u H => x_load Tryz.isAgg3 rfl (by first | exact SH.cellB H AT (by rfl) | assumption)) (SH.sub H SB) ?_
  refine DL.one (i := 6) (by kernel_rfl) rfl rfl ?_
  refine r_call rfl Tryz.call149 HS (Twice_c _ _ (SH.prop H AT) (by omega) (by omega)) ?_
  rintro _ w1_6 ⟨FN1_6, rfl, K⟩
  refine ⟨_, rfl, ?_⟩
  replace H := SH.updP H AT K
  clear K
  try dsimp only [replC, List.cons_append, List.nil_append, List.append_nil] at H
  refine LW.nil (thenE_norm ⟨fun _ => (SH.sub H SB), ?_⟩)
  refine DL.take (i := 7) [] rfl (by kernel_rfl) (by kernel_rfl) (by kernel_rfl) (by kernel_rfl) rfl rfl (fun u H => x_assign ) (SH.sub H SB) ?_
  refine DL.done (by kernel_rfl) ?_
  refine thenE_norm ?_
  refine cut (K := K2) [4] (fun σ => ?_)
  refine zg zm ?_
  refine h2 _ _ ?_; clear h2; try clear K2
  refine CW.ret (ret1 Tryz.results97 EV ?_)
  obtain ⟨q1, q2, q3⟩ := netTwice_ok (ms := ms) (lost := lost) (i := a.at_) hok.fl
  obtain ⟨F', K⟩ := WorldA.mk (k := k) (j := j + 1) ⟨cf, vR, vC, pc, pn, vS, en, va, vd, vk, rs, cs, gR, gC, FR, FC, Fk, (netTwice ms lost a.at_).1, (netTwice ms lost a.at_).2.1, FN1_6, bs, gS, ga, gd, gk⟩ ⟨hok.1, hok.2, hok.3, hok.4, hok.5, hok.6, hok.7, hok.8, q1, hok.10, hok.11, by show 0 ≤ (netTwice ms lost a.at_).2.1; omega, by show (netTwice ms lost a.at_).2.1 ≤ _; omega⟩ (SH.sel H [0, 1, 2, 3, 4, 5, 6, 7, 8, 9, 10] (by decide) rfl)
  exact ⟨_, _, rfl, K⟩
set_option maxHeartbeats 1000000 in
theorem drop_c {R C p k j : Nat} {F : Nat → Prop} (a : Ev) (w : World) (h : WorldA R C p k j F w) (hj : j ≤ 1000) : Calls Tryz.prog 96 #[.pointer (some ⟨p, 0, none⟩), agg a] w fun e w' => ∃ x F', e = .returned (.int .i64 x) ∧ SH F Non w w' [.P F' (WorldA R C p k (j + 1) F')] := by
  obtain ⟨⟨cf, vR, vC, pc, pn, vS, en, va, vd, vk, rs, cs, gR, gC, FR, FC, Fk, ms, lost, FN, bs, gS, ga, gd, gk⟩, hok, hA⟩ := h
  have H := SH.obj (G := Any) hA
  have hl0 : 0 ≤ lost := hok.l0
  have hl1 : lost ≤ 20 * j := hok.l1
  dsimp only [WS.L, WS.cells] at H
  refine calls_of_CW Tryz.func96 rfl Tryz.ntmps96 (Nat.le_of_ble_eq_true rfl) ?_
  simp only [argE, argFrom, Nat.reduceAdd]
  refine CW.seq fun K1 h1 => zr ?_
  refine s_box H rfl EV rfl ?_
  clear H
  intro b0_0 w0_0 H
  try dsimp only [replC, List.cons_append, List.nil_append, List.append_nil, agg, cellsL, Value.cells, List.toList_toArray, List.set_cons_zero, List.set_cons_succ, spliceL, List.take_succ_cons, List.take_zero, List.drop_succ_cons, List.drop_zero, List.length_cons, List.length_nil, Nat.reduceAdd, Row.cells, Flight.L, Hd.L, Snd.L, Ev.L] at H
  refine zg iA (zn h1 ?_); try clear h1
  refine CW.seq (fun K2 h2 => ?_)
  refine CW.seq (fun K3 h3 => ?_)
  refine CW.drawP [0, 1, 2, 3, 4, 5, 7, 8, 9, 10, 11] [] H (by dsimp only [pickC, nthC] <;> rfl) SB (by kernel_rfl) rfl ?_
  clear H
  intro w1d H
  refine DL.take (i := 0) [] rfl (by kernel_rfl) (by kernel_rfl) (by kernel_rfl) (by kernel_rfl) rfl rfl (fun u H => x_move ) (SH.sub H SB) ?_
  refine DL.take (i := 1) [] rfl (by kernel_rfl) (by kernel_rfl) (by kernel_rfl) (by kernel_rfl) rfl rfl (fun u H => x_nilCheck rfl) (SH.sub H SB) ?_
  refine DL.take (i := 2) [] rfl (by kernel_rfl) (by kernel_rfl) (by kernel_rfl) (by kernel_rfl) rfl rfl (fun u H => x_fieldAddrO Tryz.underlying104 rfl Tryz.sizeOf95 (by decide) (show _ = 14 from rfl) rfl) (SH.sub H SB) ?_
  refine DL.take (i := 3) [] rfl (by kernel_rfl) (by kernel_rfl) (by kernel_rfl) (by kernel_rfl) rfl rfl (fun u H => x_load Tryz.isAgg95 rfl (by first | exact SH.cellB H AT (by rfl) | exact SH.cellI H AT (by rfl) | assumption)) (SH.sub H SB) ?_
  refine DL.take (i := 4) [] rfl (by kernel_rfl) (by kernel_rfl) (by kernel_rfl) (by kernel_rfl) rfl rfl (fun u H => x_fieldAddrO Tryz.underlying35 rfl Tryz.sizeOf3 (by decide) (show _ = 2 from rfl) rfl) (SH.sub H SB) ?_
  refine DL.take (i := 5) [] rfl (by kernel_rfl) (by kernel_rfl) (by kernel_rfl) (by kernel_rfl) rfl rfl (fun u H => x_load Tryz.isAgg3 rfl (by first | exact SH.cellB H AT (by rfl) | assumption)) (SH.sub H SB) ?_
  refine DL.two (i := 6) (j := 10) (by kernel_rfl) ?_ ?_
  · refine LOp.of rfl rfl ?_
    refine r_call rfl Tryz.call145 HS (Take_c _ _ (SH.prop H AT)) ?_
    rintro _ w1_6 ⟨v1_6, g1_6, FN1_6, rfl, K⟩
    refine ⟨_, rfl, ?_⟩
    replace H := SH.updP H AT K
    clear K
    try dsimp only [replC, List.cons_append, List.nil_append, List.append_nil] at H
    refine LW.nil (thenE_norm ⟨fun _ => (SH.sub H SB), ?_⟩)
    refine DL.take (i := 7) [] rfl (by kernel_rfl) (by kernel_rfl) (by kernel_rfl) (by kernel_rfl) rfl rfl (fun u H => x_move ) (SH.sub H SB) ?_
    refine DL.take (i := 8) [] rfl (by kernel_rfl) (by kernel_rfl) (by kernel_rfl) (by kernel_rfl) rfl rfl (fun u H => x_extract EV (by simp only [List.getElem?_toArray, List.getElem?_cons_zero, List.getElem?_cons_succ] <;> rfl)) (SH.sub H SB) ?_
    refine DL.take (i := 9) [] rfl (by kernel_rfl) (by kernel_rfl) (by kernel_rfl) (by kernel_rfl) rfl rfl (fun u H => x_extract EV (by simp only [List.getElem?_toArray, List.getElem?_cons_zero, List.getElem?_cons_succ] <;> rfl)) (SH.sub H SB) ?_
    refine DL.one (i := 10) (by kernel_rfl) rfl rfl ?_
    refine s_alloc (cs := [.int .i64 0, .int .i64 0, .int .i64 0, .slice none 0 0]) H rfl Tryz.zeroValue180 rfl ?_
    clear H
    intro b1_10 w1_10 H
    try dsimp only [replC, List.cons_append, List.nil_append, List.append_nil, agg, cellsL, Value.cells, List.toList_toArray, List.set_cons_zero, List.set_cons_succ, spliceL, List.take_succ_cons, List.take_zero, List.drop_succ_cons, List.drop_zero, List.length_cons, List.length_nil, Nat.reduceAdd, Row.cells, Flight.L, Hd.L, Snd.L, Ev.L] at H
    refine LW.nil (thenE_norm ⟨fun _ => (SH.sub H SB), ?_⟩)
    refine DL.one (i := 11) (by kernel_rfl) rfl rfl ?_
    refine s_storeA H Tryz.sizeOf180 rfl EV (by simp only [cellsL, agg, List.toList_toArray, Row.cells, Flight.L, Hd.L, Snd.L, Ev.L] <;> rfl) (by rfl) (by first | rfl | assumption | exact Rs.oneC RS | (simp only [List.all_cons, List.all_nil, Bool.and_true, Bool.and_eq_true, Row.cells, Flight.L, Hd.L, Snd.L, Ev.L]; (repeat' constructor) <;> first | rfl | assumption | exact Rs.oneC RS)) AT (by first | (simp; done) | decide | (show _ ≤ _; decide)) ?_
    clear H
    intro w1_11 H
    try dsimp only [replC, List.cons_append, List.nil_append, List.append_nil, agg, cellsL, Value.cells, List.toList_toArray, List.set_cons_zero, List.set_cons_succ, spliceL, List.take_succ_cons, List.take_zero, List.drop_succ_cons, List.drop_zero, List.length_cons, List.length_nil, Nat.reduceAdd, Row.cells, Flight.L, Hd.L, Snd.L, Ev.L] at H
    refine LW.nil (thenE_norm ⟨fun _ => (SH.sub H SB), ?_⟩)
    refine DL.take (i := 12) [] rfl (by kernel_rfl) (by kernel_rfl) (by kernel_rfl) (by kernel_rfl) rfl rfl (fun u H => x_assign ) (SH.sub H SB) ?_
    refine DL.done (by kernel_rfl) ?_
    refine thenE_norm ?_
    refine cut (K := K3) [6] (fun σ => ?_)
    refine zg zm ?_
    refine h3 _ _ ?_; clear h3; try clear K3
    refine CW.seq fun K4 h4 => zr ?_
    refine zg (zt iM iN) (zn h4 ?_); try clear h4
    refine CW.cond rfl (fun hc1 => ?_) (fun hc1 => ?_)
    · try simp only [zb] at hc1
      refine CW.seq fun K5 h5 => zr ?_
      refine zg iA (zn h5 ?_); try clear h5
      refine CW.ret (tR (ret1 Tryz.results96 EV ?_))
      obtain ⟨F', K⟩ := WorldA.mk (k := k) (j := j + 1) ⟨cf, vR, vC, pc, pn, vS, en, va, vd, vk, rs, cs, gR, gC, FR, FC, Fk, netCut ms a.at_, lost, FN1_6, bs, gS, ga, gd, gk⟩ ⟨hok.1, hok.2, hok.3, hok.4, hok.5, hok.6, hok.7, hok.8, netCut_ok hok.fl, hok.10, hok.11, hl0, by show lost ≤ _; omega⟩ (SH.sel H [0, 1, 2, 3, 4, 5, 6, 8, 9, 10, 11] (by decide) rfl)
      exact ⟨_, _, rfl, K⟩
    · try simp only [zb] at hc1
      refine CW.skip ?_
      refine thenE_norm (h2 _ _ ?_); clear h2; try clear K2
      refine CW.seq fun K6 h6 => zr ?_
      refine zg iA (zn h6 ?_); try clear h6
      refine CW.ret (ret1 Tryz.results96 EV ?_)
      obtain ⟨F', K⟩ := WorldA.mk (k := k) (j := j + 1) ⟨cf, vR, vC, pc, pn, vS, en, va, vd, vk, rs, cs, gR, gC, FR, FC, Fk, netCut ms a.at_, lost, FN1_6, bs, gS, ga, gd, gk⟩ ⟨hok.1, hok.2, hok.3, hok.4, hok.5, hok.6, hok.7, hok.8, netCut_ok hok.fl, hok.10, hok.11, hl0, by show lost ≤ _; omega⟩ (SH.sel H [0, 1, 2, 3, 4, 5, 6, 8, 9, 10, 11] (by decide) rfl)
      exact ⟨_, _, rfl, K⟩
  · refine LOp.of rfl rfl ?_
    refine s_alloc (cs := [.int .i64 0, .int .i64 0, .int .i64 0, .slice none 0 0]) H rfl Tryz.zeroValue180 rfl ?_
    clear H
    intro b1_10 w1_10 H
    try dsimp only [replC, List.cons_append, List.nil_append, List.append_nil, agg, cellsL, Value.cells, List.toList_toArray, List.set_cons_zero, List.set_cons_succ, spliceL, List.take_succ_cons, List.take_zero, List.drop_succ_cons, List.drop_zero, List.length_cons, List.length_nil, Nat.reduceAdd, Row.cells, Flight.L, Hd.L, Snd.L, Ev.L] at H
    refine LW.nil (thenE_norm ⟨fun _ => (SH.sub H SB), ?_⟩)
    refine DL.one (i := 6) (by kernel_rfl) rfl rfl ?_
    refine r_call rfl Tryz.call145 HS (Take_c _ _ (SH.prop H AT)) ?_
    rintro _ w1_6 ⟨v1_6, g1_6, FN1_6, rfl, K⟩
    refine ⟨_, rfl, ?_⟩
    replace H := SH.updP H AT K
    clear K
    try dsimp only [replC, List.cons_append, List.nil_append, List.append_nil] at H
    refine LW.nil (thenE_norm ⟨fun _ => (SH.sub H SB), ?_⟩)
    refine DL.take (i := 7) [] rfl (by kernel_rfl) (by kernel_rfl) (by kernel_rfl) (by kernel_rfl) rfl rfl (fun u H => x_move ) (SH.sub H SB) ?_
    refine DL.take (i := 8) [] rfl (by kernel_rfl) (by kernel_rfl) (by kernel_rfl) (by kernel_rfl) rfl rfl (fun u H => x_extract EV (by simp only [List.getElem?_toArray, List.getElem?_cons_zero, List.getElem?_cons_succ] <;> rfl)) (SH.sub H SB) ?_
    refine DL.take (i := 9) [] rfl (by kernel_rfl) (by kernel_rfl) (by kernel_rfl) (by kernel_rfl) rfl rfl (fun u H => x_extract EV (by simp only [List.getElem?_toArray, List.getElem?_cons_zero, List.getElem?_cons_succ] <;> rfl)) (SH.sub H SB) ?_
    refine DL.one (i := 11) (by kernel_rfl) rfl rfl ?_
    refine s_storeA H Tryz.sizeOf180 rfl EV (by simp only [cellsL, agg, List.toList_toArray, Row.cells, Flight.L, Hd.L, Snd.L, Ev.L] <;> rfl) (by rfl) (by first | rfl | assumption | exact Rs.oneC RS | (simp only [List.all_cons, List.all_nil, Bool.and_true, Bool.and_eq_true, Row.cells, Flight.L, Hd.L, Snd.L, Ev.L]; (repeat' constructor) <;> first | rfl | assumption | exact Rs.oneC RS)) AT (by first | (simp; done) | decide | (show _ ≤ _; decide)) ?_
    clear H
    intro w1_11 H
    try dsimp only [replC, List.cons_append, List.nil_append, List.append_nil, agg, cellsL, Value.cells, List.toList_toArray, List.set_cons_zero, List.set_cons_succ, spliceL, List.take_succ_cons, List.take_zero, List.drop_succ_cons, List.drop_zero, List.length_cons, List.length_nil, Nat.reduceAdd, Row.cells, Flight.L, Hd.L, Snd.L, Ev.L] at H
    refine LW.nil (thenE_norm ⟨fun _ => (SH.sub H SB), ?_⟩)
    refine DL.take (i := 12) [] rfl (by kernel_rfl) (by kernel_rfl) (by kernel_rfl) (by kernel_rfl) rfl rfl (fun u H => x_assign ) (SH.sub H SB) ?_
    refine DL.done (by kernel_rfl) ?_
    refine thenE_norm ?_
    refine cut (K := K3) [6] (fun σ => ?_)
    refine zg zm ?_
    refine h3 _ _ ?_; clear h3; try clear K3
    refine CW.seq fun K7 h7 => zr ?_
    refine zg (zt iM iN) (zn h7 ?_); try clear h7
    refine CW.cond rfl (fun hc1 => ?_) (fun hc1 => ?_)
    · try simp only [zb] at hc1
      refine CW.seq fun K8 h8 => zr ?_
      refine zg iA (zn h8 ?_); try clear h8
      refine CW.ret (tR (ret1 Tryz.results96 EV ?_))
      obtain ⟨F', K⟩ := WorldA.mk (k := k) (j := j + 1) ⟨cf, vR, vC, pc, pn, vS, en, va, vd, vk, rs, cs, gR, gC, FR, FC, Fk, netCut ms a.at_, lost, FN1_6, bs, gS, ga, gd, gk⟩ ⟨hok.1, hok.2, hok.3, hok.4, hok.5, hok.6, hok.7, hok.8, netCut_ok hok.fl, hok.10, hok.11, hl0, by show lost ≤ _; omega⟩ (SH.sel H [0, 1, 2, 3, 4, 5, 6, 8, 9, 10, 11] (by decide) rfl)
      exact ⟨_, _, rfl, K⟩
    · try simp only [zb] at hc1
      refine CW.skip ?_
      refine thenE_norm (h2 _ _ ?_); clear h2; try clear K2
      refine CW.seq fun K9 h9 => zr ?_
      refine zg iA (zn h9 ?_); try clear h9
      refine CW.ret (ret1 Tryz.results96 EV ?_)
      obtain ⟨F', K⟩ := WorldA.mk (k := k) (j := j + 1) ⟨cf, vR, vC, pc, pn, vS, en, va, vd, vk, rs, cs, gR, gC, FR, FC, Fk, netCut ms a.at_, lost, FN1_6, bs, gS, ga, gd, gk⟩ ⟨hok.1, hok.2, hok.3, hok.4, hok.5, hok.6, hok.7, hok.8, netCut_ok hok.fl, hok.10, hok.11, hl0, by show lost ≤ _; omega⟩ (SH.sel H [0, 1, 2, 3, 4, 5, 6, 8, 9, 10, 11] (by decide) rfl)
      exact ⟨_, _, rfl, K⟩
theorem rs3 {b : Nat} {x y : UInt8} {w : World} (h : Blk w b 5 [u8v x, u8v y, u8v 7]) : Rs (fun k => k = b) w (.slice (some ⟨b, 0, none⟩) 3 3) [x, y, 7] :=
  ⟨⟨_, 3, rfl, by simp, by simp [maxLen], .inr ⟨b, 0, rfl, rfl, Cells.of fun j v hj => by rw [Nat.zero_add]; exact h.cell hj⟩⟩, onesU _⟩
set_option maxHeartbeats 2000000 in
theorem inject_c {R C p k j : Nat} {F : Nat → Prop} {bb : Nat} {x y : UInt8} (a : Ev) (w : World) (h : WorldA R C p k j F w) (hj : j ≤ 1000) (ha : a.bytes = .slice (some ⟨bb, 0, none⟩) 3 3) (hb : Blk w bb 5 [u8v x, u8v y, u8v 7]) (hF : ¬ F bb) : Calls Tryz.prog 102 #[.pointer (some ⟨p, 0, none⟩), agg a] w fun e w' => ∃ x F', e = .returned (.int .i64 x) ∧ SH F Non w w' [.P F' (WorldA R C p k (j + 1) F')] := by
  have h' := h
  obtain ⟨⟨cf, vR, vC, pc, pn, vS, en, va, vd, vk, rs, cs, gR, gC, FR, FC, Fk, ms, lost, FN, bs, gS, ga, gd, gk⟩, hok, hA⟩ := h
  have H := SH.obj (G := Any) hA
  replace H := SH.argI H hb Ch.stB (fun b hb' => by cases hb'; exact hb.lt) (fun b hb' h => hF (by cases hb'; exact h))
  have hl0 : 0 ≤ lost := hok.l0
  have hl1 : lost ≤ 20 * j := hok.l1
  obtain ⟨ak, ah, aa, an, ar, ac, am, ab⟩ := a
  dsimp only at ha
  subst ha
  dsimp only [WS.L, WS.cells] at H
  refine calls_of_CW Tryz.func102 rfl Tryz.ntmps102 (Nat.le_of_ble_eq_true rfl) ?_
  simp only [argE, argFrom, Nat.reduceAdd]
  refine CW.seq fun K1 h1 => zr ?_
  refine s_box H rfl EV rfl ?_
  clear H
  intro b0_0 w0_0 H
  try dsimp only [replC, List.cons_append, List.nil_append, List.append_nil, agg, cellsL, Value.cells, List.toList_toArray, List.set_cons_zero, List.set_cons_succ, spliceL, List.take_succ_cons, List.take_zero, List.drop_succ_cons, List.drop_zero, List.length_cons, List.length_nil, Nat.reduceAdd, Row.cells, Flight.L, Hd.L, Snd.L, Ev.L] at H
  refine zg iA (zn h1 ?_); try clear h1
  refine CW.seq (fun K2 h2 => ?_)
  refine CW.seq fun K3 h3 => zr ?_
  refine zg (zt iM (zt (fA 1) iL)) ?_
  refine r_call rfl Tryz.call153 HS (isHost_c _ _ ⟨⟨cf, vR, vC, pc, pn, vS, en, va, vd, vk, rs, cs, gR, gC, FR, FC, Fk, ms, lost, FN, bs, gS, ga, gd, gk⟩, hok, SH.objA (SH.sel H [0, 1, 2, 3, 4, 5, 6, 7, 8, 9, 10] (by decide) rfl)⟩) ?_
  rintro _ _ ⟨rfl, rfl⟩
  refine ⟨_, rfl, ?_⟩
  refine zg iN (zn h3 ?_); try clear h3
  refine CW.cond rfl (fun hc1 => ?_) (fun hc1 => ?_)
  · try simp only [zb] at hc1
    refine CW.seq fun K4 h4 => zr ?_
    refine zg iA (zc [4] h4 fun σ => zg zm ?_); try clear h4
    refine CW.ret (tR (ret1 Tryz.results102 EV ?_))
    obtain ⟨F', K⟩ := WorldA.mk (k := k) (j := j + 1) ⟨cf, vR, vC, pc, pn, vS, en, va, vd, vk, rs, cs, gR, gC, FR, FC, Fk, ms, lost, FN, bs, gS, ga, gd, gk⟩ ⟨hok.1, hok.2, hok.3, hok.4, hok.5, hok.6, hok.7, hok.8, hok.9, hok.10, hok.11, hok.12, by show lost ≤ _; omega⟩ (SH.sel H [0, 1, 2, 3, 4, 5, 6, 7, 8, 9, 10] (by decide) rfl)
    exact ⟨_, _, rfl, K⟩
  · try simp only [zb] at hc1
    refine CW.skip ?_
    refine thenE_norm (h2 _ _ ?_); clear h2; try clear K2
    refine CW.seq (fun K5 h5 => ?_)
    refine CW.seq fun K6 h6 => zr ?_
    refine zg (zt (fA 7) (zt iL (zt iVV igt))) (zc [0, 3, 15] h6 fun σ => zg zm ?_); try clear h6
    refine CW.condF rfl (by first | rfl | (simp only [zd]; omega) | simp_all) ?_
    refine CW.skip ?_
    refine thenE_norm (h5 _ _ ?_); clear h5; try clear K5
    refine CW.seq (fun K7 h7 => ?_)
    refine CW.seq fun K8 h8 => zr ?_
    refine zg (zt (fA 7) iL) ?_
    refine r_call rfl Tryz.call154 HS (GetInj_c _ (SH.propI H (i := 11) rfl)) ?_
    rintro _ w5_2 ⟨rfl, X⟩
    refine ⟨_, rfl, ?_⟩
    replace H := SH.same H X
    clear X
    refine zg (zt iM (zt iE iE)) ?_
    refine s_alloc (cs := [.int .i64 0, .int .i64 0, .int .i64 0, .int .i64 0, .int .i64 0, .int .i64 0, .int .i64 0, .int .i64 0, .string (ByteArray.mk #[]), .int .i64 0, .int .i64 0, .int .i64 0, .int .i64 0, .int .i64 0, .slice none 0 0, .bool false, .int .i64 0, .int .i64 0, .int .i64 0, .int .i64 0, .slice none 0 0, .int .i64 0, .int .i64 0, .int .i64 0, .int .i64 0, .int .i64 0, .slice none 0 0, .int .i64 0, .int .i64 0, .int .i64 0, .int .i64 0, .int .i64 0, .int .i64 0, .slice none 0 0, .slice none 0 0, .slice none 0 0]) H rfl Tryz.zeroValue265 rfl ?_
    clear H
    intro b5_6 w5_6 H
    try dsimp only [replC, List.cons_append, List.nil_append, List.append_nil, agg, cellsL, Value.cells, List.toList_toArray, List.set_cons_zero, List.set_cons_succ, spliceL, List.take_succ_cons, List.take_zero, List.drop_succ_cons, List.drop_zero, List.length_cons, List.length_nil, Nat.reduceAdd, Row.cells, Flight.L, Hd.L, Snd.L, Ev.L] at H
    refine s_storeA H Tryz.sizeOf265 rfl EV (by simp only [cellsL, agg, List.toList_toArray, Row.cells, Flight.L, Hd.L, Snd.L, Ev.L] <;> rfl) (by rfl) (by first | rfl | assumption | exact Rs.oneC RS | (simp only [List.all_cons, List.all_nil, Bool.and_true, Bool.and_eq_true, Row.cells, Flight.L, Hd.L, Snd.L, Ev.L]; (repeat' constructor) <;> first | rfl | assumption | exact Rs.oneC RS)) AT (by first | (simp; done) | decide | (show _ ≤ _; decide)) ?_
    clear H
    intro w5_7 H
    try dsimp only [replC, List.cons_append, List.nil_append, List.append_nil, agg, cellsL, Value.cells, List.toList_toArray, List.set_cons_zero, List.set_cons_succ, spliceL, List.take_succ_cons, List.take_zero, List.drop_succ_cons, List.drop_zero, List.length_cons, List.length_nil, Nat.reduceAdd, Row.cells, Flight.L, Hd.L, Snd.L, Ev.L] at H
    refine zg iA (zc [0, 3, 6] h8 fun σ => zg zm ?_); try clear h8
    refine CW.seq fun K9 h9 => zr ?_
    refine zg (zt iM ieq) (zn h9 ?_); try clear h9
    refine CW.condF rfl (by first | rfl | (simp only [zd]; omega) | simp_all) ?_
    refine CW.skip ?_
    refine thenE_norm (h7 _ _ ?_); clear h7; try clear K7
    refine CW.seq (fun K10 h10 => ?_)
    refine CW.drawP [0, 1, 2, 3, 4, 5, 7, 8, 9, 10, 11, 12] [] H (by dsimp only [pickC, nthC] <;> rfl) SB (by kernel_rfl) rfl ?_
    clear H
    intro w8d H
    refine DL.take (i := 0) [] rfl (by kernel_rfl) (by kernel_rfl) (by kernel_rfl) (by kernel_rfl) rfl rfl (fun u H => x_move ) (SH.sub H SB) ?_
    refine DL.take (i := 1) [] rfl (by kernel_rfl) (by kernel_rfl) (by kernel_rfl) (by kernel_rfl) rfl rfl (fun u H => x_nilCheck rfl) (SH.sub H SB) ?_
    refine DL.take (i := 2) [] rfl (by kernel_rfl) (by kernel_rfl) (by kernel_rfl) (by kernel_rfl) rfl rfl (fun u H => x_fieldAddrO Tryz.underlying104 rfl Tryz.sizeOf95 (by decide) (show _ = 14 from rfl) rfl) (SH.sub H SB) ?_
    refine DL.take (i := 3) [] rfl (by kernel_rfl) (by kernel_rfl) (by kernel_rfl) (by kernel_rfl) rfl rfl (fun u H => x_load Tryz.isAgg95 rfl (by first | exact SH.cellB H AT (by rfl) | exact SH.cellI H AT (by rfl) | assumption)) (SH.sub H SB) ?_
    refine DL.take (i := 4) [] rfl (by kernel_rfl) (by kernel_rfl) (by kernel_rfl) (by kernel_rfl) rfl rfl (fun u H => x_fieldAddrO Tryz.underlying35 rfl Tryz.sizeOf3 (by decide) (show _ = 1 from rfl) rfl) (SH.sub H SB) ?_
    refine DL.take (i := 5) [] rfl (by kernel_rfl) (by kernel_rfl) (by kernel_rfl) (by kernel_rfl) rfl rfl (fun u H => x_load Tryz.isAgg3 rfl (by first | exact SH.cellB H AT (by rfl) | assumption)) (SH.sub H SB) ?_
    refine DL.take (i := 6) [] rfl (by kernel_rfl) (by kernel_rfl) (by kernel_rfl) (by kernel_rfl) rfl rfl (fun u H => x_move ) (SH.sub H SB) ?_
    refine DL.take (i := 7) [] rfl (by kernel_rfl) (by kernel_rfl) (by kernel_rfl) (by kernel_rfl) rfl rfl (fun u H => x_nilCheck rfl) (SH.sub H SB) ?_
    refine DL.take (i := 8) [] rfl (by kernel_rfl) (by kernel_rfl) (by kernel_rfl) (by kernel_rfl) rfl rfl (fun u H => x_fieldAddrO Tryz.underlying104 rfl Tryz.sizeOf3 (by decide) (show _ = 16 from rfl) rfl) (SH.sub H SB) ?_
    refine DL.take (i := 9) [] rfl (by kernel_rfl) (by kernel_rfl) (by kernel_rfl) (by kernel_rfl) rfl rfl (fun u H => x_load Tryz.isAgg3 rfl (by first | exact SH.cellB H AT (by rfl) | exact SH.cellI H AT (by rfl) | assumption)) (SH.sub H SB) ?_
    refine DL.take (i := 10) [] rfl (by kernel_rfl) (by kernel_rfl) (by kernel_rfl) (by kernel_rfl) rfl rfl (fun u H => x_fieldAddrO Tryz.underlying35 rfl Tryz.sizeOf22 (by decide) (show _ = 7 from rfl) rfl) (SH.sub H SB) ?_
    refine DL.take (i := 11) [] rfl (by kernel_rfl) (by kernel_rfl) (by kernel_rfl) (by kernel_rfl) rfl rfl (fun u H => x_load Tryz.isAgg22 rfl (by first | exact SH.cellB H AT (by rfl) | assumption)) (SH.sub H SB) ?_
    refine DL.take (i := 12) [] rfl (by kernel_rfl) (by kernel_rfl) (by kernel_rfl) (by kernel_rfl) rfl rfl (fun u H => x_buildQ Tryz.underlying180 Tryz.zeroValue180 rfl (pl := [(0, 1), (1, 1), (2, 1), (3, 1)]) (by intro w; simp [go_sem]) (qs := [(0, [_]), (1, [_]), (2, [_]), (3, [_])]) (cs := [_, _, _, _]) ⟨rfl, cells_one EV (by first | rfl | exact Rs.oneC RS), rfl, cells_one EV (by first | rfl | exact Rs.oneC RS), rfl, cells_one EV (by first | rfl | exact Rs.oneC RS), rfl, cells_one EV (by first | rfl | exact Rs.oneC RS), trivial⟩ rfl) (SH.sub H SB) ?_
    refine DL.one (i := 13) (by kernel_rfl) rfl rfl ?_
    refine r_call rfl Tryz.call155 HS (Put_c ⟨_, _, _, _⟩ _ (SH.prop H (i := 6) rfl) (rs3 (SH.propI H (i := 11) rfl)) (fun b h1 h2 => (SH.val H).apart (i := 6) (j := 11) rfl rfl (by decide) (.inl trivial) b h2 h1) (by omega) (by omega)) ?_
    rintro _ w8_13 ⟨FN8_13, rfl, K⟩
    refine ⟨_, rfl, ?_⟩
    replace H := SH.updP H (i := 6) rfl K
    clear K
    try dsimp only [replC, List.cons_append, List.nil_append, List.append_nil] at H
    refine LW.nil (thenE_norm ⟨fun _ => (SH.sub H SB), ?_⟩)
    refine DL.take (i := 14) [] rfl (by kernel_rfl) (by kernel_rfl) (by kernel_rfl) (by kernel_rfl) rfl rfl (fun u H => x_assign ) (SH.sub H SB) ?_
    refine DL.done (by kernel_rfl) ?_
    refine thenE_norm ?_
    refine cut (K := K10) [4] (fun σ => ?_)
    refine zg zm ?_
    refine h10 _ _ ?_; clear h10; try clear K10
    refine CW.ret (ret1 Tryz.results102 EV ?_)
    obtain ⟨q1, q2, q3⟩ := netPut_ok (ms := ms) (lost := lost) (m := ⟨-1, ah, en, [x, y, 7]⟩) hok.fl (.inl ⟨rfl, rfl⟩)
    obtain ⟨F', K⟩ := WorldA.mk (k := k) (j := j + 1) ⟨cf, vR, vC, pc, pn, vS, en, va, vd, vk, rs, cs, gR, gC, FR, FC, Fk, (netPut ms lost ⟨-1, ah, en, [x, y, 7]⟩).1, (netPut ms lost ⟨-1, ah, en, [x, y, 7]⟩).2.1, FN8_13, bs, gS, ga, gd, gk⟩ ⟨hok.1, hok.2, hok.3, hok.4, hok.5, hok.6, hok.7, hok.8, q1, hok.10, hok.11, by show 0 ≤ (netPut ms lost ⟨-1, ah, en, [x, y, 7]⟩).2.1; omega, by show (netPut ms lost ⟨-1, ah, en, [x, y, 7]⟩).2.1 ≤ _; omega⟩ (SH.sel H [0, 1, 2, 3, 4, 5, 6, 7, 8, 9, 10] (by decide) rfl)
    exact ⟨_, _, rfl, K⟩
set_option maxHeartbeats 1000000 in
theorem halt_c {R C p k j : Nat} {F : Nat → Prop} (a : Ev) (w : World) (h : WorldA R C p k j F w) : Calls Tryz.prog 100 #[.pointer (some ⟨p, 0, none⟩), agg a] w fun e w' => ∃ x F', e = .returned (.int .i64 x) ∧ SH F Non w w' [.P F' (WorldA R C p k (j + 1) F')] := by
  obtain ⟨⟨cf, vR, vC, pc, pn, vS, en, va, vd, vk, rs, cs, gR, gC, FR, FC, Fk, ms, lost, FN, bs, gS, ga, gd, gk⟩, hok, hA⟩ := h
  have H := SH.obj (G := Any) hA
  have hl1 : lost ≤ 20 * j := hok.l1
  have hbs : bs.length = R + C := hok.bs
  dsimp only [WS.L, WS.cells] at H
  refine calls_of_CW Tryz.func100 rfl Tryz.ntmps100 (Nat.le_of_ble_eq_true rfl) ?_
  simp only [argE, argFrom, Nat.reduceAdd]
  refine CW.seq fun K1 h1 => zr ?_
  refine s_box H rfl EV rfl ?_
  clear H
  intro b0_0 w0_0 H
  try dsimp only [replC, List.cons_append, List.nil_append, List.append_nil, agg, cellsL, Value.cells, List.toList_toArray, List.set_cons_zero, List.set_cons_succ, spliceL, List.take_succ_cons, List.take_zero, List.drop_succ_cons, List.drop_zero, List.length_cons, List.length_nil, Nat.reduceAdd, Row.cells, Flight.L, Hd.L, Snd.L, Ev.L] at H
  refine zg iA (zn h1 ?_); try clear h1
  refine CW.seq (fun K2 h2 => ?_)
  refine CW.seq fun K3 h3 => zr ?_
  refine zg (zt iM (zt (fA 1) iL)) ?_
  refine r_call rfl Tryz.call139 HS (there_c _ _ ⟨⟨cf, vR, vC, pc, pn, vS, en, va, vd, vk, rs, cs, gR, gC, FR, FC, Fk, ms, lost, FN, bs, gS, ga, gd, gk⟩, hok, SH.objA (SH.sel H [0, 1, 2, 3, 4, 5, 6, 7, 8, 9, 10] (by decide) rfl)⟩) ?_
  rintro _ w1_3 ⟨x1_3, hx1_3, rfl, rfl⟩
  refine ⟨_, rfl, ?_⟩
  refine zg iA (zn h3 ?_); try clear h3
  refine CW.seq fun K4 h4 => zr ?_
  refine zg (zt iM ine) (zc [0, 3, 5, 11] h4 fun σ => zg zm ?_); try clear h4
  refine CW.cond rfl (fun hc1 => ?_) (fun hc1 => ?_)
  · try simp only [zb] at hc1
    refine CW.seq fun K5 h5 => zr ?_
    refine zg (zt iM iA) (zn h5 ?_); try clear h5
    refine CW.ret (tR (ret1 Tryz.results100 EV ?_))
    obtain ⟨F', K⟩ := WorldA.mk (k := k) (j := j + 1) ⟨cf, vR, vC, pc, pn, vS, en, va, vd, vk, rs, cs, gR, gC, FR, FC, Fk, ms, lost, FN, bs, gS, ga, gd, gk⟩ ⟨hok.1, hok.2, hok.3, hok.4, hok.5, hok.6, hok.7, hok.8, hok.9, hok.10, hok.11, hok.12, by show lost ≤ _; omega⟩ (SH.sel H [0, 1, 2, 3, 4, 5, 6, 7, 8, 9, 10] (by decide) rfl)
    exact ⟨_, _, rfl, K⟩
  · try simp only [zb] at hc1
    refine CW.skip ?_
    refine thenE_norm (h2 _ _ ?_); clear h2; try clear K2
    refine CW.seq (fun K6 h6 => ?_)
    have hh := hx1_3 (by omega)
    obtain ⟨y, hy⟩ := get_of_lt (show a.host.toNat < bs.length by omega)
    refine CW.drawP [0, 1, 2, 3, 4, 5, 6, 7, 8, 9, 10, 11] [7] H (by dsimp only [pickC, nthC] <;> rfl) SB (by kernel_rfl) rfl ?_
    clear H
    intro w4d H
    refine DL.take (i := 0) [0, 1, 2, 3, 6, 7] rfl (by kernel_rfl) (by kernel_rfl) (by kernel_rfl) (by kernel_rfl) rfl rfl (fun u H => x_move ) (SH.sub H SB) ?_
    refine DL.take (i := 1) [1, 2, 3, 6, 7] rfl (by kernel_rfl) (by kernel_rfl) (by kernel_rfl) (by kernel_rfl) rfl rfl (fun u H => x_nilCheck rfl) (SH.sub H SB) ?_
    refine DL.take (i := 2) [2, 3, 6, 7] rfl (by kernel_rfl) (by kernel_rfl) (by kernel_rfl) (by kernel_rfl) rfl rfl (fun u H => x_fieldAddrO Tryz.underlying104 rfl Tryz.sizeOf97 (by decide) (show _ = 15 from rfl) rfl) (SH.sub H SB) ?_
    refine DL.take (i := 3) [3, 6, 7] rfl (by kernel_rfl) (by kernel_rfl) (by kernel_rfl) (by kernel_rfl) rfl rfl (fun u H => x_load Tryz.isAgg97 rfl (by first | exact SH.cellB H AT (by rfl) | exact SH.cellI H AT (by rfl) | assumption)) (SH.sub H SB) ?_
    refine DL.take (i := 4) [4, 5, 6, 7] rfl (by kernel_rfl) (by kernel_rfl) (by kernel_rfl) (by kernel_rfl) rfl rfl (fun u H => x_fieldAddrO Tryz.underlying35 rfl Tryz.sizeOf3 (by decide) (show _ = 1 from rfl) rfl) (SH.sub H SB) ?_
    refine DL.take (i := 5) [5, 6, 7] rfl (by kernel_rfl) (by kernel_rfl) (by kernel_rfl) (by kernel_rfl) rfl rfl (fun u H => x_load Tryz.isAgg3 rfl (by first | exact SH.cellB H AT (by rfl) | assumption)) (SH.sub H SB) ?_
    refine DL.take (i := 6) [6, 7] rfl (by kernel_rfl) (by kernel_rfl) (by kernel_rfl) (by kernel_rfl) rfl rfl (fun u H => x_indexAddrV Tryz.underlying97 EV rfl RS (by exact Tryz.sizeOf4) (by omega) (by omega)) (SH.sub H SB) ?_
    refine DL.one (i := 7) (by kernel_rfl) rfl rfl ?_
    refine s_storeR (o := 0) (x1 := true) H Tryz.sizeOf4 rfl EV (by first | rfl | assumption | exact Rs.oneC RS | (simp only [List.all_cons, List.all_nil, Bool.and_true, Bool.and_eq_true, Row.cells, Flight.L, Hd.L, Snd.L, Ev.L]; (repeat' constructor) <;> first | rfl | assumption | exact Rs.oneC RS)) AT hy (by rfl) (by rfl) (by rfl) (by first | rfl | assumption | exact Rs.oneC RS | (simp only [List.all_cons, List.all_nil, Bool.and_true, Bool.and_eq_true, Row.cells, Flight.L, Hd.L, Snd.L, Ev.L]; (repeat' constructor) <;> first | rfl | assumption | exact Rs.oneC RS)) ?_
    clear H
    intro w4_7 H
    try dsimp only [replC, List.cons_append, List.nil_append, List.append_nil, agg, cellsL, Value.cells, List.toList_toArray, List.set_cons_zero, List.set_cons_succ, spliceL, List.take_succ_cons, List.take_zero, List.drop_succ_cons, List.drop_zero, List.length_cons, List.length_nil, Nat.reduceAdd, Row.cells, Flight.L, Hd.L, Snd.L, Ev.L] at H
    refine LW.nil (thenE_norm ⟨fun h => Bool.noConfusion (show true = false from h), ?_⟩)
    refine DL.done (by kernel_rfl) ?_
    refine thenE_norm ?_
    refine cut (K := K6) [] (fun σ => ?_)
    refine zg zm ?_
    refine h6 _ _ ?_; clear h6; try clear K6
    refine CW.seq fun K7 h7 => zr ?_
    refine zg iA (zn h7 ?_); try clear h7
    refine CW.ret (ret1 Tryz.results100 EV ?_)
    obtain ⟨F', K⟩ := WorldA.mk (k := k) (j := j + 1) ⟨cf, vR, vC, pc, pn, vS, en, va, vd, vk, rs, cs, gR, gC, FR, FC, Fk, ms, lost, FN, bs.set a.host.toNat true, gS, ga, gd, gk⟩ ⟨hok.1, hok.2, hok.3, hok.4, hok.5, hok.6, hok.7, by show (bs.set a.host.toNat true).length = _; rw [List.length_set]; exact hbs, hok.9, hok.10, hok.11, hok.12, by show lost ≤ _; omega⟩ (SH.sel H [0, 1, 2, 3, 4, 5, 6, 7, 8, 9, 10] (by decide) rfl)
    exact ⟨_, _, rfl, K⟩
end Go.Proofs.YtgmmbdmdimkfjaaGreat
