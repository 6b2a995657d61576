/-
  What Script makes of bytes: entries, at most 300
-/
import Derived.Test.YtgmmbdmdimkfjaaGreatPI34
import Derived.Test.YtgmmbdmdimkfjaaGreatPI05
namespace Go.Proofs.YtgmmbdmdimkfjaaGreat
set_option linter.unusedSimpArgs false
set_option linter.unusedVariables false
set_option maxRecDepth 20000
open Go.V Go.RowKit Go.ChangeShapes Go.WideShapes
theorem SH.addP {U G : Nat → Prop} {w0 w : World} {L : List Ch} {A : World → Prop} (H : SH U G w0 w L) (hA : A w) (hst : Ch.St Non A) : SH U G w0 w (.P Non A :: L) :=
  ⟨H.ext, Val.cons ⟨hA, hst, fun b hb => hb.elim, fun _ b hb => hb.elim, fun b hb => hb.elim⟩ H.val fun d hd _ b h1 h2 => h1⟩
/-- Entries: those that ask are of any kind. -/
def EvsA (FE : Nat → Prop) (evs : List Ev) (w : World) : Prop := ∀ a ∈ evs, a.kind = 8 ∨ EvA FE a w
theorem EvsA.st {FE : Nat → Prop} {evs : List Ev} : Ch.St FE (EvsA FE evs) := fun V w w' h e hd a ha => (h a ha).imp id fun q => EvA.st V w w' q e hd
theorem EvA.mono {FE FE' : Nat → Prop} {a : Ev} {w : World} (h : EvA FE a w) (hF : ∀ b, FE b → FE' b) : EvA FE' a w :=
  ⟨h.1, h.2.1, h.2.2.1, fun h9 => by obtain ⟨bb, x, y, q1, q2, q3⟩ := h.2.2.2 h9; exact ⟨bb, x, y, hF bb q1, q2, q3⟩⟩
theorem EvsA.mono {FE FE' : Nat → Prop} {evs : List Ev} {w : World} (h : EvsA FE evs w) (hF : ∀ b, FE b → FE' b) : EvsA FE' evs w := fun a ha => (h a ha).imp id fun q => q.mono hF
theorem EvsA.snoc {FE : Nat → Prop} {evs : List Ev} {a : Ev} {w : World} (h : EvsA FE evs w) (ha : a.kind = 8 ∨ EvA FE a w) : EvsA FE (evs ++ [a]) w := by
  intro b hb
  rcases List.mem_append.1 hb with hb | hb
  · exact h b hb
  · rw [List.mem_singleton] at hb; subst hb; exact ha
theorem EvA.plain {FE : Nat → Prop} {a : Ev} {w : World} (h8 : a.kind ≠ 8) (h5 : a.kind = 5 → 0 ≤ a.n ∧ a.n ≤ 8) (h6 : a.kind ≠ 6) (h9 : a.kind ≠ 9) : a.kind = 8 ∨ EvA FE a w :=
  .inr ⟨h8, h5, fun h => absurd h h6, fun h => absurd h h9⟩
/-- One more entry. -/
theorem SH.evSnoc {U G : Nat → Prop} {w0 w : World} {L : List Ch} {FE : Nat → Prop} {evs : List Ev} (a : Ev) (H : SH U G w0 w (.P FE (EvsA FE evs) :: L)) (ha : a.kind = 8 ∨ EvA FE a w) : SH U G w0 w (.P FE (EvsA FE (evs ++ [a])) :: L) :=
  SH.cast (d := .P FE (EvsA FE (evs ++ [a]))) H (i := 0) rfl (fun h => h) (fun b hb => hb) EvsA.st (fun h => EvsA.snoc h ha)
theorem SH.evInj {U G : Nat → Prop} {w0 w : World} {L : List Ch} {FE : Nat → Prop} {evs : List Ev} {b : Nat} {x y : UInt8} (a : Ev) (H : SH U G w0 w (.P FE (EvsA FE evs) :: .B b 5 [u8v x, u8v y, u8v 7] :: L)) (hk : a.kind = 9) (hb : a.bytes = .slice (some ⟨b, 0, none⟩) 3 3) :
    ∃ FE', SH U G w0 w (.P FE' (EvsA FE' (evs ++ [a])) :: L) :=
  ⟨fun k => FE k ∨ k = b, SH.absorb (A' := EvsA (fun k => FE k ∨ k = b) (evs ++ [a])) H trivial EvsA.st fun h1 h2 => EvsA.snoc (h1.mono fun k hk => .inl hk) (.inr ⟨by omega, fun h => by omega, fun h => by omega, fun _ => ⟨b, x, y, .inr rfl, hb, h2⟩⟩)⟩
theorem NamedW_c (m : Int) (w : World) (hm : 0 ≤ m) (hm2 : m < 256) : Calls Tryz.prog 13 #[.int .u8 m] w fun e w' => ∃ s : ByteArray, e = .returned (.string s) ∧ Ext0 w w' := by
  have H := SH.start (U := Non) (G := Any) w
  refine calls_of_CW Tryz.func13 rfl Tryz.ntmps13 (Nat.le_of_ble_eq_true rfl) ?_
  simp only [argE, argFrom, Nat.reduceAdd]
  refine CW.seq fun K1 h1 => zr ?_
  refine zg iA (zn h1 ?_); try clear h1
  refine CW.seq (fun K2 h2 => ?_)
  have h6 : ([ByteArray.mk #[97], ByteArray.mk #[98], ByteArray.mk #[99], ByteArray.mk #[100], ByteArray.mk #[107, 101, 121, 45, 49], ByteArray.mk #[116, 104, 101, 45, 108, 97, 115, 116, 45, 111, 110, 101]] : List ByteArray).length = 6 := rfl
  obtain ⟨q, hq⟩ := get_of_lt (show (m % 6).toNat < ([ByteArray.mk #[97], ByteArray.mk #[98], ByteArray.mk #[99], ByteArray.mk #[100], ByteArray.mk #[107, 101, 121, 45, 49], ByteArray.mk #[116, 104, 101, 45, 108, 97, 115, 116, 45, 111, 110, 101]] : List ByteArray).length by omega)
  refine CW.region ?_
  refine r_buildSlice rfl Tryz.underlying117 Tryz.sizeOf9 Tryz.zeroValue9 rfl rfl rfl BV ?_
  intro b1_0 w1_0 hb1_0 hs1_0 hE1_0 hB1_0
  replace H := SH.call H (SH.fromB hE1_0 hb1_0 hs1_0 hB1_0)
  clear hb1_0 hs1_0 hE1_0 hB1_0
  try dsimp only [replC, List.cons_append, List.nil_append, List.append_nil, agg, cellsL, Value.cells, List.toList_toArray, List.set_cons_zero, List.set_cons_succ, spliceL, List.take_succ_cons, List.take_zero, List.drop_succ_cons, List.drop_zero, List.length_cons, List.length_nil, Nat.reduceAdd, Row.cells, Flight.L, Hd.L, Snd.L, Ev.L] at H
  replace H := SH.row (b := b1_0) (xs := ([_, _, _, _, _, _] : List ByteArray)) (n := 6) (cap := 6) H AT (by rfl) (by intro x hx; first | rfl | (simp at hx; done) | (simp only [List.mem_cons, List.not_mem_nil, or_false] at hx; rcases hx with rfl | rfl | rfl | rfl | rfl | rfl <;> first | rfl | exact (by first | rfl | assumption | exact Rs.oneC RS | (simp only [List.all_cons, List.all_nil, Bool.and_true, Bool.and_eq_true, Row.cells, Flight.L, Hd.L, Snd.L, Ev.L]; (repeat' constructor) <;> first | rfl | assumption | exact Rs.oneC RS)))) (by rfl) rfl (by decide)
  try dsimp only [replC, List.cons_append, List.nil_append, List.append_nil, agg, cellsL, Value.cells, List.toList_toArray, List.set_cons_zero, List.set_cons_succ, spliceL, List.take_succ_cons, List.take_zero, List.drop_succ_cons, List.drop_zero, List.length_cons, List.length_nil, Nat.reduceAdd, Row.cells, Flight.L, Hd.L, Snd.L, Ev.L] at H
  refine zg (zt iM iW) ?_
  refine zg (zt (zk (r_rem rfl rfl rfl (by omega) (by omega) (wr_i64 (by omega) (by omega)))) (zt iI (zt iL iA))) (zc [2] h2 fun σ => zg zm ?_); try clear h2
  refine CW.ret (ret1 Tryz.results13 EV ?_)
  exact ⟨q, rfl, H.ext⟩
set_option maxHeartbeats 8000000 in
theorem Script_c {R : Nat} {cf : Nat → Int} {F : Nat → Prop} {v : Value} {bs : List UInt8} (hR : okR R) (hC1 : 1 ≤ cf 0) (hC5 : cf 0 ≤ 5) (w : World) (hv : Rs F w v bs) :
    Calls Tryz.prog 16 #[confV R cf, v, .int .i64 300] w fun e w' => ∃ v' g evs FE, e = .returned v' ∧ evs.length ≤ 300 ∧ SH Non Non w w' [.O 35 v' evs g, .P FE (EvsA FE evs)] := by
  have hR7 : 1 ≤ R ∧ R ≤ 7 := by rcases hR with rfl | rfl | rfl | rfl <;> omega
  have H := (SH.start (U := Non) (G := Any) w).arg hv
  have h63 := hv.len63
  unfold confV
  refine calls_of_CW Tryz.func16 rfl Tryz.ntmps16 (Nat.le_of_ble_eq_true rfl) ?_
  simp only [argE, argFrom, Nat.reduceAdd]
  refine CW.seq fun K1 h1 => zr ?_
  refine s_box H rfl EV rfl ?_
  clear H
  intro b0_0 w0_0 H
  try dsimp only [replC, List.cons_append, List.nil_append, List.append_nil, agg, cellsL, Value.cells, List.toList_toArray, List.set_cons_zero, List.set_cons_succ, spliceL, List.take_succ_cons, List.take_zero, List.drop_succ_cons, List.drop_zero, List.length_cons, List.length_nil, Nat.reduceAdd, Row.cells, Flight.L, Hd.L, Snd.L, Ev.L] at H
  refine zg iA (zn h1 ?_); try clear h1
  refine CW.seq fun K2 h2 => zr ?_
  refine zg iA (zn h2 ?_); try clear h2
  refine CW.seq fun K3 h3 => zr ?_
  refine zg (zt (fA 0) (zt iL (zt (fA 1) (zt iL (zt iP iA))))) (zc [1, 2, 3, 7, 8] h3 fun σ => zg zm ?_); try clear h3
  refine CW.seq (fun K4 h4 => ?_)
  refine CW.seq fun K5 h5 => zr ?_
  refine zg iA (zn h5 ?_); try clear h5
  refine CW.block ?_
  refine CW.loopR [1, 2, 3, 8] [7, 9] (fun m vs w' => ∃ (v' : Value) (g : Option Nat) (evs : List Ev) (FE : Nat → Prop) (i : Nat), vs = [v', .int .i64 i] ∧ i = 3 * evs.length ∧ evs.length ≤ 300 ∧ i ≤ bs.length ∧ m = bs.length - i ∧ SH Non Any w w' [.R (Old w) v bs, .B b0_0 24 [.int .i64 R, .int .i64 (cf 0), .int .i64 (cf 1), .int .i64 (cf 2), .int .i64 (cf 3), .int .i64 (cf 4), .int .i64 (cf 5), .int .i64 (cf 6), .int .i64 (cf 7), .int .i64 (cf 8), .int .i64 (cf 9)], .O 35 v' evs g, .P FE (EvsA FE evs)]) (bs.length) ?_ ?_
  · exact ⟨_, none, [], Non, 0, rfl, rfl, by simp, by omega, by omega, SH.sel (SH.addP (SH.addO (α := Ev) H 35) (A := EvsA Non []) (fun a ha => by cases ha) EvsA.st) [1, 2, 3, 0] (by decide) rfl⟩
  try clear H
  rintro n1 vs1 wL1 σ ⟨v', g, evs, FE, i, rfl, hi3, hn, hi, rfl, H⟩
  refine zg zm ?_
  refine CW.seq (fun K6 h6 => ?_)
  refine CW.seq fun K7 h7 => zr ?_
  refine zg (zt iM (zt iP (zt iM (zt iVV (zt ilt iM))))) ?_
  refine' LW.grpAnd (n := 5) (ts := [1, 2, 3, 7, 8, 9]) (d := 30) (tj := 25) rfl (fun hg4_6 => ?_) (fun hg4_6 => ?_) (fun σ => ?_)
  rotate_left
  · simp only [List.take_succ_cons, List.take_zero]
    have hg4_6P := hg4_6
    try simp only [zd] at hg4_6P
    refine LW.want rfl rfl hg4_6 ?_
    refine zg iM ?_
    refine LW.want rfl rfl hg4_6 ?_
    refine zg iVV ?_
    refine LW.want rfl rfl hg4_6 ?_
    refine zg iM ?_
    refine LW.want rfl rfl hg4_6 ?_
    refine zg ilt ?_
    refine zg (zk (r_pickT rfl rfl hg4_6)) ?_
    refine LW.nil (thenE_norm ⟨rfl, rfl, rfl⟩)
  · simp only [List.take_succ_cons, List.take_zero]
    refine LW.skip rfl (fun _ e => by cases e; decide) rfl hg4_6 ?_
    refine LW.skip rfl (fun _ e => by cases e; decide) rfl hg4_6 ?_
    refine LW.skip rfl (fun _ e => by cases e; decide) rfl hg4_6 ?_
    refine LW.skip rfl (fun _ e => by cases e; decide) rfl hg4_6 ?_
    refine zg (zk (r_pickF rfl rfl hg4_6)) ?_
    refine LW.nil (thenE_norm ⟨rfl, rfl, rfl⟩)
  simp only [setL, keepE, upd_get, ev, Nat.reduceEqDiff, ↓reduceIte]; simp only [List.drop_succ_cons, List.drop_zero]
  refine LW.nil ?_
  refine thenE_norm (h7 _ _ ?_); clear h7; try clear K7
  refine CW.cond rfl (fun hc1 => ?_) (fun hc1 => ?_)
  · try simp only [zb] at hc1
    refine CW.skip ?_
    refine thenE_norm (h6 _ _ ?_); clear h6; try clear K6
    refine CW.seqJ [1, 2, 3, 8, 9] [7] (fun vs w' => ∃ (v' : Value) (g : Option Nat) (evs' : List Ev) (FE : Nat → Prop), vs = [v'] ∧ evs'.length = evs.length + 1 ∧ SH Non Any w w' [.R (Old w) v bs, .B b0_0 24 [.int .i64 R, .int .i64 (cf 0), .int .i64 (cf 1), .int .i64 (cf 2), .int .i64 (cf 3), .int .i64 (cf 4), .int .i64 (cf 5), .int .i64 (cf 6), .int .i64 (cf 7), .int .i64 (cf 8), .int .i64 (cf 9)], .O 35 v' evs' g, .P FE (EvsA FE evs')]) ?_ ?_
    · refine CW.block ?_
      refine CW.seq (fun K9 h9 => ?_)
      obtain ⟨x, hx⟩ := get_of_lt (show (i : Int).toNat < bs.length by omega)
      obtain ⟨y, hy⟩ := get_of_lt (show ((i : Int) + 1).toNat < bs.length by omega)
      obtain ⟨z, hz⟩ := get_of_lt (show ((i : Int) + 2).toNat < bs.length by omega)
      have hx256 := x.toNat_lt
      have hy256 := y.toNat_lt
      have hz256 := z.toNat_lt
      have e1 := Int.emod_nonneg (y.toNat : Int) (show (R : Int) + cf 0 + 1 ≠ 0 by omega)
      have e2 := Int.emod_lt_of_pos (y.toNat : Int) (show (0 : Int) < (R : Int) + cf 0 + 1 by omega)
      have e3 := Int.emod_nonneg (y.toNat : Int) (show cf 0 + 1 ≠ 0 by omega)
      have e4 := Int.emod_lt_of_pos (y.toNat : Int) (show (0 : Int) < cf 0 + 1 by omega)
      have h66 : ([3, 3, 4, 5, 6, 3] : List Int).length = 6 := rfl
      refine CW.drawH [] H (List.Sublist.refl _) (by kernel_rfl) rfl ?_
      clear H
      intro w6d H
      refine DL.take (i := 0) [] rfl (by kernel_rfl) (by kernel_rfl) (by kernel_rfl) (by kernel_rfl) rfl rfl (fun u H => x_move ) H ?_
      refine DL.take (i := 1) [] rfl (by kernel_rfl) (by kernel_rfl) (by kernel_rfl) (by kernel_rfl) rfl rfl (fun u H => x_move ) H ?_
      refine DL.take (i := 2) [] rfl (by kernel_rfl) (by kernel_rfl) (by kernel_rfl) (by kernel_rfl) rfl rfl (fun u H => x_indexAddrV Tryz.underlying22 EV rfl RS (by exact Tryz.sizeOf5) (by omega) (by omega)) H ?_
      refine DL.take (i := 3) [] rfl (by kernel_rfl) (by kernel_rfl) (by kernel_rfl) (by kernel_rfl) rfl rfl (fun u H => x_load Tryz.isAgg5 rfl (by first | exact Rs.cell RS (by assumption) (by rfl) | exact Rs.cell0 RS (by assumption) (by rfl) | assumption)) H ?_
      refine DL.take (i := 4) [] rfl (by kernel_rfl) (by kernel_rfl) (by kernel_rfl) (by kernel_rfl) rfl rfl (fun u H => x_move ) H ?_
      refine DL.take (i := 5) [] rfl (by kernel_rfl) (by kernel_rfl) (by kernel_rfl) (by kernel_rfl) rfl rfl (fun u H => x_move ) H ?_
      refine DL.take (i := 6) [] rfl (by kernel_rfl) (by kernel_rfl) (by kernel_rfl) (by kernel_rfl) rfl rfl (fun u H => x_add rfl rfl (wr_i64 (by omega) (by omega))) H ?_
      refine DL.take (i := 7) [] rfl (by kernel_rfl) (by kernel_rfl) (by kernel_rfl) (by kernel_rfl) rfl rfl (fun u H => x_indexAddrV Tryz.underlying22 EV rfl RS (by exact Tryz.sizeOf5) (by omega) (by omega)) H ?_
      refine DL.take (i := 8) [] rfl (by kernel_rfl) (by kernel_rfl) (by kernel_rfl) (by kernel_rfl) rfl rfl (fun u H => x_load Tryz.isAgg5 rfl (by first | exact Rs.cell RS (by assumption) (by rfl) | exact Rs.cell0 RS (by assumption) (by rfl) | assumption)) H ?_
      refine DL.take (i := 9) [] rfl (by kernel_rfl) (by kernel_rfl) (by kernel_rfl) (by kernel_rfl) rfl rfl (fun u H => x_convI Tryz.underlying5 Tryz.underlying3 rfl (wr_i64 (by omega) (by omega))) H ?_
      refine DL.take (i := 10) [] rfl (by kernel_rfl) (by kernel_rfl) (by kernel_rfl) (by kernel_rfl) rfl rfl (fun u H => x_move ) H ?_
      refine DL.take (i := 11) [] rfl (by kernel_rfl) (by kernel_rfl) (by kernel_rfl) (by kernel_rfl) rfl rfl (fun u H => x_move ) H ?_
      refine DL.take (i := 12) [] rfl (by kernel_rfl) (by kernel_rfl) (by kernel_rfl) (by kernel_rfl) rfl rfl (fun u H => x_add rfl rfl (wr_i64 (by omega) (by omega))) H ?_
      refine DL.take (i := 13) [] rfl (by kernel_rfl) (by kernel_rfl) (by kernel_rfl) (by kernel_rfl) rfl rfl (fun u H => x_indexAddrV Tryz.underlying22 EV rfl RS (by exact Tryz.sizeOf5) (by omega) (by omega)) H ?_
      refine DL.take (i := 14) [] rfl (by kernel_rfl) (by kernel_rfl) (by kernel_rfl) (by kernel_rfl) rfl rfl (fun u H => x_load Tryz.isAgg5 rfl (by first | exact Rs.cell RS (by assumption) (by rfl) | exact Rs.cell0 RS (by assumption) (by rfl) | assumption)) H ?_
      refine DL.take (i := 15) [] rfl (by kernel_rfl) (by kernel_rfl) (by kernel_rfl) (by kernel_rfl) rfl rfl (fun u H => x_convI Tryz.underlying5 Tryz.underlying3 rfl (wr_i64 (by omega) (by omega))) H ?_
      refine DL.take (i := 16) [] rfl (by kernel_rfl) (by kernel_rfl) (by kernel_rfl) (by kernel_rfl) rfl rfl (fun u H => x_assign ) H ?_
      refine DL.take (i := 17) [] rfl (by kernel_rfl) (by kernel_rfl) (by kernel_rfl) (by kernel_rfl) rfl rfl (fun u H => x_assign ) H ?_
      refine DL.take (i := 18) [] rfl (by kernel_rfl) (by kernel_rfl) (by kernel_rfl) (by kernel_rfl) rfl rfl (fun u H => x_assign ) H ?_
      refine DL.done (by kernel_rfl) ?_
      refine thenE_norm ?_
      refine cut (K := K9) [1, 2, 3, 7, 8, 9, 10, 11, 12] (fun σ => ?_)
      refine zg zm ?_
      refine h9 _ _ ?_; clear h9; try clear K9
      refine CW.block ?_
      refine CW.seq fun K10 h10 => zr ?_
      refine zg (zt iM (zt ilt iA)) (zn h10 ?_); try clear h10
      refine CW.cond rfl (fun hc2 => ?_) (fun hc2 => ?_)
      · try simp only [zb] at hc2
        refine CW.region ?_
        refine zg (zt iM (zt iM (zt iM iP))) ?_
        refine zg (zk (r_rem rfl rfl rfl (by omega) (by omega) (wr_i64 (by omega) (by omega)))) ?_
        refine zg (zk (r_buildQ rfl Tryz.underlying35 Tryz.zeroValue35 rfl (pl := [(0, 1), (1, 1), (2, 1), (3, 1), (4, 1), (5, 1), (6, 1), (7, 1)]) (by intro w; simp [go_sem]) (qs := [(0, [_]), (1, [_])]) (cs := [_, _, .int .i64 0, .int .i64 0, .float .f64 0, .int .i64 0, .string (ByteArray.mk #[]), .slice none 0 0]) ⟨rfl, cells_one EV (by first | rfl | exact Rs.oneC RS), rfl, cells_one EV (by first | rfl | exact Rs.oneC RS), trivial⟩ rfl)) ?_
        refine r_buildSliceA (vs := [_]) rfl Tryz.underlying25 Tryz.sizeOf35 Tryz.zeroValue35 rfl rfl rfl rfl BN rfl (by intro v hv; simp only [List.mem_cons, List.not_mem_nil, or_false] at hv; rcases hv with rfl <;> rfl) ?_
        intro b9_6 w9_6 hb9_6 hs9_6 hE9_6 hB9_6
        replace H := SH.call H (SH.fromB hE9_6 hb9_6 hs9_6 hB9_6)
        clear hb9_6 hs9_6 hE9_6 hB9_6
        try dsimp only [replC, List.cons_append, List.nil_append, List.append_nil, agg, cellsL, Value.cells, List.toList_toArray, List.set_cons_zero, List.set_cons_succ, spliceL, List.take_succ_cons, List.take_zero, List.drop_succ_cons, List.drop_zero, List.length_cons, List.length_nil, Nat.reduceAdd, Row.cells, Flight.L, Hd.L, Snd.L, Ev.L] at H
        replace H := SH.row (b := b9_6) (xs := ([⟨_, _, _, _, _, _, _, _⟩] : List Ev)) (n := 1) (cap := 1) H AT (by simp only [flat, List.flatMap_cons, List.flatMap_nil, cellsL, agg, List.append_nil, List.cons_append, List.nil_append, List.toList_toArray, Row.cells, Flight.L, Hd.L, Snd.L, Ev.L] <;> rfl) (by intro x hx; first | rfl | (simp at hx; done) | (simp only [List.mem_cons, List.not_mem_nil, or_false] at hx; rcases hx with rfl <;> first | rfl | exact (by first | rfl | assumption | exact Rs.oneC RS | (simp only [List.all_cons, List.all_nil, Bool.and_true, Bool.and_eq_true, Row.cells, Flight.L, Hd.L, Snd.L, Ev.L]; (repeat' constructor) <;> first | rfl | assumption | exact Rs.oneC RS)))) (by rfl) rfl (by decide)
        try dsimp only [replC, List.cons_append, List.nil_append, List.append_nil, agg, cellsL, Value.cells, List.toList_toArray, List.set_cons_zero, List.set_cons_succ, spliceL, List.take_succ_cons, List.take_zero, List.drop_succ_cons, List.drop_zero, List.length_cons, List.length_nil, Nat.reduceAdd, Row.cells, Flight.L, Hd.L, Snd.L, Ev.L] at H
        refine s_append H rfl Tryz.underlying25 Tryz.underlying25 Tryz.type35 rfl EV EV AT RS (by rfl) (by rfl) (by first | omega | (simp only [Tryz.t35, List.length_append, List.length_cons, List.length_nil, List.length_map, maxLen]; omega) | (simp [Tryz.t35, maxLen]; omega)) (by first | omega | (simp only [Tryz.t35, List.length_append, List.length_cons, List.length_nil, List.length_map, maxLen]; omega) | (simp [Tryz.t35, maxLen]; omega)) ?_
        clear H
        intro v9_7 w9_7 g9_7 H hN9_7
        try dsimp only [replC, List.cons_append, List.nil_append, List.append_nil] at H
        refine zg iA ?_
        refine LW.nil ?_
        refine blockE_norm ?_
        refine blockE_norm ?_
        refine thenE_norm ?_
        exact ⟨rfl, _, _, _, _, rfl, by simp, SH.sel (SH.evSnoc _ (SH.sel H [3, 0, 1, 2] (by decide) rfl) (EvA.plain (by simp) (fun h => by first | (simp at h; done) | (dsimp only; omega)) (by simp) (by simp))) [1, 2, 3, 0] (by decide) rfl⟩
      · try simp only [zb] at hc2
        refine CW.seq fun K11 h11 => zr ?_
        refine zg (zt iM (zt ilt iA)) (zn h11 ?_); try clear h11
        refine CW.cond rfl (fun hc3 => ?_) (fun hc3 => ?_)
        · try simp only [zb] at hc3
          refine CW.region ?_
          refine zg (zt iM iM) ?_
          refine zg (zk (r_rem rfl rfl rfl (by omega) (by omega) (wr_i64 (by omega) (by omega)))) ?_
          refine zg (zk (r_buildQ rfl Tryz.underlying35 Tryz.zeroValue35 rfl (pl := [(0, 1), (1, 1), (2, 1), (3, 1), (4, 1), (5, 1), (6, 1), (7, 1)]) (by intro w; simp [go_sem]) (qs := [(0, [_]), (2, [_])]) (cs := [_, .int .i64 0, _, .int .i64 0, .float .f64 0, .int .i64 0, .string (ByteArray.mk #[]), .slice none 0 0]) ⟨rfl, cells_one EV (by first | rfl | exact Rs.oneC RS), rfl, cells_one EV (by first | rfl | exact Rs.oneC RS), trivial⟩ rfl)) ?_
          refine r_buildSliceA (vs := [_]) rfl Tryz.underlying25 Tryz.sizeOf35 Tryz.zeroValue35 rfl rfl rfl rfl BN rfl (by intro v hv; simp only [List.mem_cons, List.not_mem_nil, or_false] at hv; rcases hv with rfl <;> rfl) ?_
          intro b11_4 w11_4 hb11_4 hs11_4 hE11_4 hB11_4
          replace H := SH.call H (SH.fromB hE11_4 hb11_4 hs11_4 hB11_4)
          clear hb11_4 hs11_4 hE11_4 hB11_4
          try dsimp only [replC, List.cons_append, List.nil_append, List.append_nil, agg, cellsL, Value.cells, List.toList_toArray, List.set_cons_zero, List.set_cons_succ, spliceL, List.take_succ_cons, List.take_zero, List.drop_succ_cons, List.drop_zero, List.length_cons, List.length_nil, Nat.reduceAdd, Row.cells, Flight.L, Hd.L, Snd.L, Ev.L] at H
          replace H := SH.row (b := b11_4) (xs := ([⟨_, _, _, _, _, _, _, _⟩] : List Ev)) (n := 1) (cap := 1) H AT (by simp only [flat, List.flatMap_cons, List.flatMap_nil, cellsL, agg, List.append_nil, List.cons_append, List.nil_append, List.toList_toArray, Row.cells, Flight.L, Hd.L, Snd.L, Ev.L] <;> rfl) (by intro x hx; first | rfl | (simp at hx; done) | (simp only [List.mem_cons, List.not_mem_nil, or_false] at hx; rcases hx with rfl <;> first | rfl | exact (by first | rfl | assumption | exact Rs.oneC RS | (simp only [List.all_cons, List.all_nil, Bool.and_true, Bool.and_eq_true, Row.cells, Flight.L, Hd.L, Snd.L, Ev.L]; (repeat' constructor) <;> first | rfl | assumption | exact Rs.oneC RS)))) (by rfl) rfl (by decide)
          try dsimp only [replC, List.cons_append, List.nil_append, List.append_nil, agg, cellsL, Value.cells, List.toList_toArray, List.set_cons_zero, List.set_cons_succ, spliceL, List.take_succ_cons, List.take_zero, List.drop_succ_cons, List.drop_zero, List.length_cons, List.length_nil, Nat.reduceAdd, Row.cells, Flight.L, Hd.L, Snd.L, Ev.L] at H
          refine s_append H rfl Tryz.underlying25 Tryz.underlying25 Tryz.type35 rfl EV EV AT RS (by rfl) (by rfl) (by first | omega | (simp only [Tryz.t35, List.length_append, List.length_cons, List.length_nil, List.length_map, maxLen]; omega) | (simp [Tryz.t35, maxLen]; omega)) (by first | omega | (simp only [Tryz.t35, List.length_append, List.length_cons, List.length_nil, List.length_map, maxLen]; omega) | (simp [Tryz.t35, maxLen]; omega)) ?_
          clear H
          intro v11_5 w11_5 g11_5 H hN11_5
          try dsimp only [replC, List.cons_append, List.nil_append, List.append_nil] at H
          refine zg iA ?_
          refine LW.nil ?_
          refine blockE_norm ?_
          refine blockE_norm ?_
          refine thenE_norm ?_
          exact ⟨rfl, _, _, _, _, rfl, by simp, SH.sel (SH.evSnoc _ (SH.sel H [3, 0, 1, 2] (by decide) rfl) (EvA.plain (by simp) (fun h => by first | (simp at h; done) | (dsimp only; omega)) (by simp) (by simp))) [1, 2, 3, 0] (by decide) rfl⟩
        · try simp only [zb] at hc3
          refine CW.seq fun K12 h12 => zr ?_
          refine zg (zt iM (zt ilt iA)) (zc [1, 2, 3, 7, 8, 9, 10, 11, 12, 82] h12 fun σ => zg zm ?_); try clear h12
          refine CW.cond rfl (fun hc4 => ?_) (fun hc4 => ?_)
          · try simp only [zb] at hc4
            refine CW.region ?_
            refine zg (zt iM iM) ?_
            refine zg (zk (r_rem rfl rfl rfl (by omega) (by omega) (wr_i64 (by omega) (by omega)))) ?_
            refine zg (zk (r_buildQ rfl Tryz.underlying35 Tryz.zeroValue35 rfl (pl := [(0, 1), (1, 1), (2, 1), (3, 1), (4, 1), (5, 1), (6, 1), (7, 1)]) (by intro w; simp [go_sem]) (qs := [(0, [_]), (3, [_])]) (cs := [_, .int .i64 0, .int .i64 0, _, .float .f64 0, .int .i64 0, .string (ByteArray.mk #[]), .slice none 0 0]) ⟨rfl, cells_one EV (by first | rfl | exact Rs.oneC RS), rfl, cells_one EV (by first | rfl | exact Rs.oneC RS), trivial⟩ rfl)) ?_
            refine r_buildSliceA (vs := [_]) rfl Tryz.underlying25 Tryz.sizeOf35 Tryz.zeroValue35 rfl rfl rfl rfl BN rfl (by intro v hv; simp only [List.mem_cons, List.not_mem_nil, or_false] at hv; rcases hv with rfl <;> rfl) ?_
            intro b13_4 w13_4 hb13_4 hs13_4 hE13_4 hB13_4
            replace H := SH.call H (SH.fromB hE13_4 hb13_4 hs13_4 hB13_4)
            clear hb13_4 hs13_4 hE13_4 hB13_4
            try dsimp only [replC, List.cons_append, List.nil_append, List.append_nil, agg, cellsL, Value.cells, List.toList_toArray, List.set_cons_zero, List.set_cons_succ, spliceL, List.take_succ_cons, List.take_zero, List.drop_succ_cons, List.drop_zero, List.length_cons, List.length_nil, Nat.reduceAdd, Row.cells, Flight.L, Hd.L, Snd.L, Ev.L] at H
            replace H := SH.row (b := b13_4) (xs := ([⟨_, _, _, _, _, _, _, _⟩] : List Ev)) (n := 1) (cap := 1) H AT (by simp only [flat, List.flatMap_cons, List.flatMap_nil, cellsL, agg, List.append_nil, List.cons_append, List.nil_append, List.toList_toArray, Row.cells, Flight.L, Hd.L, Snd.L, Ev.L] <;> rfl) (by intro x hx; first | rfl | (simp at hx; done) | (simp only [List.mem_cons, List.not_mem_nil, or_false] at hx; rcases hx with rfl <;> first | rfl | exact (by first | rfl | assumption | exact Rs.oneC RS | (simp only [List.all_cons, List.all_nil, Bool.and_true, Bool.and_eq_true, Row.cells, Flight.L, Hd.L, Snd.L, Ev.L]; (repeat' constructor) <;> first | rfl | assumption | exact Rs.oneC RS)))) (by rfl) rfl (by decide)
            try dsimp only [replC, List.cons_append, List.nil_append, List.append_nil, agg, cellsL, Value.cells, List.toList_toArray, List.set_cons_zero, List.set_cons_succ, spliceL, List.take_succ_cons, List.take_zero, List.drop_succ_cons, List.drop_zero, List.length_cons, List.length_nil, Nat.reduceAdd, Row.cells, Flight.L, Hd.L, Snd.L, Ev.L] at H
            refine s_append H rfl Tryz.underlying25 Tryz.underlying25 Tryz.type35 rfl EV EV AT RS (by rfl) (by rfl) (by first | omega | (simp only [Tryz.t35, List.length_append, List.length_cons, List.length_nil, List.length_map, maxLen]; omega) | (simp [Tryz.t35, maxLen]; omega)) (by first | omega | (simp only [Tryz.t35, List.length_append, List.length_cons, List.length_nil, List.length_map, maxLen]; omega) | (simp [Tryz.t35, maxLen]; omega)) ?_
            clear H
            intro v13_5 w13_5 g13_5 H hN13_5
            try dsimp only [replC, List.cons_append, List.nil_append, List.append_nil] at H
            refine zg iA ?_
            refine LW.nil ?_
            refine blockE_norm ?_
            refine blockE_norm ?_
            refine thenE_norm ?_
            exact ⟨rfl, _, _, _, _, rfl, by simp, SH.sel (SH.evSnoc _ (SH.sel H [3, 0, 1, 2] (by decide) rfl) (EvA.plain (by simp) (fun h => by first | (simp at h; done) | (dsimp only; omega)) (by simp) (by simp))) [1, 2, 3, 0] (by decide) rfl⟩
          · try simp only [zb] at hc4
            refine CW.seq fun K13 h13 => zr ?_
            refine zg (zt iM (zt ilt iA)) (zn h13 ?_); try clear h13
            refine CW.cond rfl (fun hc5 => ?_) (fun hc5 => ?_)
            · try simp only [zb] at hc5
              refine CW.seq (fun K14 h14 => ?_)
              obtain ⟨q, hq⟩ := get_of_lt (show ((z.toNat : Int) % 6).toNat < ([3, 3, 4, 5, 6, 3] : List Int).length by omega)
              refine CW.region ?_
              refine r_buildSlice rfl Tryz.underlying38 Tryz.sizeOf3 Tryz.zeroValue3 rfl rfl rfl BV ?_
              intro b15_0 w15_0 hb15_0 hs15_0 hE15_0 hB15_0
              replace H := SH.call H (SH.fromB hE15_0 hb15_0 hs15_0 hB15_0)
              clear hb15_0 hs15_0 hE15_0 hB15_0
              try dsimp only [replC, List.cons_append, List.nil_append, List.append_nil, agg, cellsL, Value.cells, List.toList_toArray, List.set_cons_zero, List.set_cons_succ, spliceL, List.take_succ_cons, List.take_zero, List.drop_succ_cons, List.drop_zero, List.length_cons, List.length_nil, Nat.reduceAdd, Row.cells, Flight.L, Hd.L, Snd.L, Ev.L] at H
              replace H := SH.row (b := b15_0) (xs := ([_, _, _, _, _, _] : List Int)) (n := 6) (cap := 6) H AT (by rfl) (by intro x hx; first | rfl | (simp at hx; done) | (simp only [List.mem_cons, List.not_mem_nil, or_false] at hx; rcases hx with rfl | rfl | rfl | rfl | rfl | rfl <;> first | rfl | exact (by first | rfl | assumption | exact Rs.oneC RS | (simp only [List.all_cons, List.all_nil, Bool.and_true, Bool.and_eq_true, Row.cells, Flight.L, Hd.L, Snd.L, Ev.L]; (repeat' constructor) <;> first | rfl | assumption | exact Rs.oneC RS)))) (by rfl) rfl (by decide)
              try dsimp only [replC, List.cons_append, List.nil_append, List.append_nil, agg, cellsL, Value.cells, List.toList_toArray, List.set_cons_zero, List.set_cons_succ, spliceL, List.take_succ_cons, List.take_zero, List.drop_succ_cons, List.drop_zero, List.length_cons, List.length_nil, Nat.reduceAdd, Row.cells, Flight.L, Hd.L, Snd.L, Ev.L] at H
              refine zg iM ?_
              refine zg (zt (zk (r_rem rfl rfl rfl (by omega) (by omega) (wr_i64 (by omega) (by omega)))) (zt iI (zt iL iA))) (zc [1, 2, 3, 7, 8, 9, 11, 12, 13] h14 fun σ => zg zm ?_); try clear h14
              refine CW.seq fun K15 h15 => zr ?_
              refine zg iM ?_
              refine zg (zt (zk (r_quo rfl rfl rfl (by omega) (by omega) (wr_quo (by omega) (by omega) (by omega)))) iW) ?_
              refine r_call rfl Tryz.call13 HS (NamedW_c _ _ (by omega) (by omega)) ?_
              rintro _ w16_3 ⟨s16_3, rfl, X⟩
              refine ⟨_, rfl, ?_⟩
              replace H := SH.same H X
              clear X
              refine zg iA (zn h15 ?_); try clear h15
              refine CW.seq (fun K16 h16 => ?_)
              refine CW.seq fun K17 h17 => zr ?_
              refine zg (zt iM ieq) (zn h17 ?_); try clear h17
              refine CW.cond rfl (fun hc6 => ?_) (fun hc6 => ?_)
              · try simp only [zb] at hc6
                refine CW.region ?_
                refine zg iA (zc [1, 2, 3, 7, 8, 9, 11, 13, 14] h16 fun σ => zg zm ?_); try clear h16
                refine CW.region ?_
                refine zg (zt iM (zt iM (zt (fA 1) (zt iL iP)))) ?_
                refine zg (zt (zk (r_rem rfl rfl rfl (by omega) (by omega) (wr_i64 (by omega) (by omega)))) (zt iM iM)) ?_
                refine zg (zk (r_buildQ rfl Tryz.underlying35 Tryz.zeroValue35 rfl (pl := [(0, 1), (1, 1), (2, 1), (3, 1), (4, 1), (5, 1), (6, 1), (7, 1)]) (by intro w; simp [go_sem]) (qs := [(0, [_]), (1, [_]), (5, [_]), (6, [_])]) (cs := [_, _, .int .i64 0, .int .i64 0, .float .f64 0, _, _, .slice none 0 0]) ⟨rfl, cells_one EV (by first | rfl | exact Rs.oneC RS), rfl, cells_one EV (by first | rfl | exact Rs.oneC RS), rfl, cells_one EV (by first | rfl | exact Rs.oneC RS), rfl, cells_one EV (by first | rfl | exact Rs.oneC RS), trivial⟩ rfl)) ?_
                refine r_buildSliceA (vs := [_]) rfl Tryz.underlying25 Tryz.sizeOf35 Tryz.zeroValue35 rfl rfl rfl rfl BN rfl (by intro v hv; simp only [List.mem_cons, List.not_mem_nil, or_false] at hv; rcases hv with rfl <;> rfl) ?_
                intro b19_9 w19_9 hb19_9 hs19_9 hE19_9 hB19_9
                replace H := SH.call H (SH.fromB hE19_9 hb19_9 hs19_9 hB19_9)
                clear hb19_9 hs19_9 hE19_9 hB19_9
                try dsimp only [replC, List.cons_append, List.nil_append, List.append_nil, agg, cellsL, Value.cells, List.toList_toArray, List.set_cons_zero, List.set_cons_succ, spliceL, List.take_succ_cons, List.take_zero, List.drop_succ_cons, List.drop_zero, List.length_cons, List.length_nil, Nat.reduceAdd, Row.cells, Flight.L, Hd.L, Snd.L, Ev.L] at H
                replace H := SH.row (b := b19_9) (xs := ([⟨_, _, _, _, _, _, _, _⟩] : List Ev)) (n := 1) (cap := 1) H AT (by simp only [flat, List.flatMap_cons, List.flatMap_nil, cellsL, agg, List.append_nil, List.cons_append, List.nil_append, List.toList_toArray, Row.cells, Flight.L, Hd.L, Snd.L, Ev.L] <;> rfl) (by intro x hx; first | rfl | (simp at hx; done) | (simp only [List.mem_cons, List.not_mem_nil, or_false] at hx; rcases hx with rfl <;> first | rfl | exact (by first | rfl | assumption | exact Rs.oneC RS | (simp only [List.all_cons, List.all_nil, Bool.and_true, Bool.and_eq_true, Row.cells, Flight.L, Hd.L, Snd.L, Ev.L]; (repeat' constructor) <;> first | rfl | assumption | exact Rs.oneC RS)))) (by rfl) rfl (by decide)
                try dsimp only [replC, List.cons_append, List.nil_append, List.append_nil, agg, cellsL, Value.cells, List.toList_toArray, List.set_cons_zero, List.set_cons_succ, spliceL, List.take_succ_cons, List.take_zero, List.drop_succ_cons, List.drop_zero, List.length_cons, List.length_nil, Nat.reduceAdd, Row.cells, Flight.L, Hd.L, Snd.L, Ev.L] at H
                refine s_append H rfl Tryz.underlying25 Tryz.underlying25 Tryz.type35 rfl EV EV AT RS (by rfl) (by rfl) (by first | omega | (simp only [Tryz.t35, List.length_append, List.length_cons, List.length_nil, List.length_map, maxLen]; omega) | (simp [Tryz.t35, maxLen]; omega)) (by first | omega | (simp only [Tryz.t35, List.length_append, List.length_cons, List.length_nil, List.length_map, maxLen]; omega) | (simp [Tryz.t35, maxLen]; omega)) ?_
                clear H
                intro v19_10 w19_10 g19_10 H hN19_10
                try dsimp only [replC, List.cons_append, List.nil_append, List.append_nil] at H
                refine zg iA ?_
                refine LW.nil ?_
                refine blockE_norm ?_
                refine blockE_norm ?_
                refine thenE_norm ?_
                exact ⟨rfl, _, _, _, _, rfl, by simp, SH.sel (SH.evSnoc _ (SH.sel H [3, 0, 1, 2] (by decide) rfl) (.inl rfl)) [1, 2, 3, 0] (by decide) rfl⟩
              · try simp only [zb] at hc6
                refine CW.skip ?_
                refine thenE_norm (h16 _ _ ?_); clear h16; try clear K16
                refine CW.region ?_
                refine zg (zt iM (zt iM (zt (fA 1) (zt iL iP)))) ?_
                refine zg (zt (zk (r_rem rfl rfl rfl (by omega) (by omega) (wr_i64 (by omega) (by omega)))) (zt iM iM)) ?_
                refine zg (zk (r_buildQ rfl Tryz.underlying35 Tryz.zeroValue35 rfl (pl := [(0, 1), (1, 1), (2, 1), (3, 1), (4, 1), (5, 1), (6, 1), (7, 1)]) (by intro w; simp [go_sem]) (qs := [(0, [_]), (1, [_]), (5, [_]), (6, [_])]) (cs := [_, _, .int .i64 0, .int .i64 0, .float .f64 0, _, _, .slice none 0 0]) ⟨rfl, cells_one EV (by first | rfl | exact Rs.oneC RS), rfl, cells_one EV (by first | rfl | exact Rs.oneC RS), rfl, cells_one EV (by first | rfl | exact Rs.oneC RS), rfl, cells_one EV (by first | rfl | exact Rs.oneC RS), trivial⟩ rfl)) ?_
                refine r_buildSliceA (vs := [_]) rfl Tryz.underlying25 Tryz.sizeOf35 Tryz.zeroValue35 rfl rfl rfl rfl BN rfl (by intro v hv; simp only [List.mem_cons, List.not_mem_nil, or_false] at hv; rcases hv with rfl <;> rfl) ?_
                intro b19_9 w19_9 hb19_9 hs19_9 hE19_9 hB19_9
                replace H := SH.call H (SH.fromB hE19_9 hb19_9 hs19_9 hB19_9)
                clear hb19_9 hs19_9 hE19_9 hB19_9
                try dsimp only [replC, List.cons_append, List.nil_append, List.append_nil, agg, cellsL, Value.cells, List.toList_toArray, List.set_cons_zero, List.set_cons_succ, spliceL, List.take_succ_cons, List.take_zero, List.drop_succ_cons, List.drop_zero, List.length_cons, List.length_nil, Nat.reduceAdd, Row.cells, Flight.L, Hd.L, Snd.L, Ev.L] at H
                replace H := SH.row (b := b19_9) (xs := ([⟨_, _, _, _, _, _, _, _⟩] : List Ev)) (n := 1) (cap := 1) H AT (by simp only [flat, List.flatMap_cons, List.flatMap_nil, cellsL, agg, List.append_nil, List.cons_append, List.nil_append, List.toList_toArray, Row.cells, Flight.L, Hd.L, Snd.L, Ev.L] <;> rfl) (by intro x hx; first | rfl | (simp at hx; done) | (simp only [List.mem_cons, List.not_mem_nil, or_false] at hx; rcases hx with rfl <;> first | rfl | exact (by first | rfl | assumption | exact Rs.oneC RS | (simp only [List.all_cons, List.all_nil, Bool.and_true, Bool.and_eq_true, Row.cells, Flight.L, Hd.L, Snd.L, Ev.L]; (repeat' constructor) <;> first | rfl | assumption | exact Rs.oneC RS)))) (by rfl) rfl (by decide)
                try dsimp only [replC, List.cons_append, List.nil_append, List.append_nil, agg, cellsL, Value.cells, List.toList_toArray, List.set_cons_zero, List.set_cons_succ, spliceL, List.take_succ_cons, List.take_zero, List.drop_succ_cons, List.drop_zero, List.length_cons, List.length_nil, Nat.reduceAdd, Row.cells, Flight.L, Hd.L, Snd.L, Ev.L] at H
                refine s_append H rfl Tryz.underlying25 Tryz.underlying25 Tryz.type35 rfl EV EV AT RS (by rfl) (by rfl) (by first | omega | (simp only [Tryz.t35, List.length_append, List.length_cons, List.length_nil, List.length_map, maxLen]; omega) | (simp [Tryz.t35, maxLen]; omega)) (by first | omega | (simp only [Tryz.t35, List.length_append, List.length_cons, List.length_nil, List.length_map, maxLen]; omega) | (simp [Tryz.t35, maxLen]; omega)) ?_
                clear H
                intro v19_10 w19_10 g19_10 H hN19_10
                try dsimp only [replC, List.cons_append, List.nil_append, List.append_nil] at H
                refine zg iA ?_
                refine LW.nil ?_
                refine blockE_norm ?_
                refine blockE_norm ?_
                refine thenE_norm ?_
                exact ⟨rfl, _, _, _, _, rfl, by simp, SH.sel (SH.evSnoc _ (SH.sel H [3, 0, 1, 2] (by decide) rfl) (.inl rfl)) [1, 2, 3, 0] (by decide) rfl⟩
            · try simp only [zb] at hc5
              refine CW.seq fun K18 h18 => zr ?_
              refine zg (zt iM (zt ilt iA)) (zn h18 ?_); try clear h18
              refine CW.cond rfl (fun hc7 => ?_) (fun hc7 => ?_)
              · try simp only [zb] at hc7
                refine CW.region ?_
                refine zg (zt iM iM) ?_
                refine zg (zk (r_rem rfl rfl rfl (by omega) (by omega) (wr_i64 (by omega) (by omega)))) ?_
                refine zg (zk (r_buildQ rfl Tryz.underlying35 Tryz.zeroValue35 rfl (pl := [(0, 1), (1, 1), (2, 1), (3, 1), (4, 1), (5, 1), (6, 1), (7, 1)]) (by intro w; simp [go_sem]) (qs := [(0, [_]), (2, [_])]) (cs := [_, .int .i64 0, _, .int .i64 0, .float .f64 0, .int .i64 0, .string (ByteArray.mk #[]), .slice none 0 0]) ⟨rfl, cells_one EV (by first | rfl | exact Rs.oneC RS), rfl, cells_one EV (by first | rfl | exact Rs.oneC RS), trivial⟩ rfl)) ?_
                refine r_buildSliceA (vs := [_]) rfl Tryz.underlying25 Tryz.sizeOf35 Tryz.zeroValue35 rfl rfl rfl rfl BN rfl (by intro v hv; simp only [List.mem_cons, List.not_mem_nil, or_false] at hv; rcases hv with rfl <;> rfl) ?_
                intro b21_4 w21_4 hb21_4 hs21_4 hE21_4 hB21_4
                replace H := SH.call H (SH.fromB hE21_4 hb21_4 hs21_4 hB21_4)
                clear hb21_4 hs21_4 hE21_4 hB21_4
                try dsimp only [replC, List.cons_append, List.nil_append, List.append_nil, agg, cellsL, Value.cells, List.toList_toArray, List.set_cons_zero, List.set_cons_succ, spliceL, List.take_succ_cons, List.take_zero, List.drop_succ_cons, List.drop_zero, List.length_cons, List.length_nil, Nat.reduceAdd, Row.cells, Flight.L, Hd.L, Snd.L, Ev.L] at H
                replace H := SH.row (b := b21_4) (xs := ([⟨_, _, _, _, _, _, _, _⟩] : List Ev)) (n := 1) (cap := 1) H AT (by simp only [flat, List.flatMap_cons, List.flatMap_nil, cellsL, agg, List.append_nil, List.cons_append, List.nil_append, List.toList_toArray, Row.cells, Flight.L, Hd.L, Snd.L, Ev.L] <;> rfl) (by intro x hx; first | rfl | (simp at hx; done) | (simp only [List.mem_cons, List.not_mem_nil, or_false] at hx; rcases hx with rfl <;> first | rfl | exact (by first | rfl | assumption | exact Rs.oneC RS | (simp only [List.all_cons, List.all_nil, Bool.and_true, Bool.and_eq_true, Row.cells, Flight.L, Hd.L, Snd.L, Ev.L]; (repeat' constructor) <;> first | rfl | assumption | exact Rs.oneC RS)))) (by rfl) rfl (by decide)
                try dsimp only [replC, List.cons_append, List.nil_append, List.append_nil, agg, cellsL, Value.cells, List.toList_toArray, List.set_cons_zero, List.set_cons_succ, spliceL, List.take_succ_cons, List.take_zero, List.drop_succ_cons, List.drop_zero, List.length_cons, List.length_nil, Nat.reduceAdd, Row.cells, Flight.L, Hd.L, Snd.L, Ev.L] at H
                refine s_append H rfl Tryz.underlying25 Tryz.underlying25 Tryz.type35 rfl EV EV AT RS (by rfl) (by rfl) (by first | omega | (simp only [Tryz.t35, List.length_append, List.length_cons, List.length_nil, List.length_map, maxLen]; omega) | (simp [Tryz.t35, maxLen]; omega)) (by first | omega | (simp only [Tryz.t35, List.length_append, List.length_cons, List.length_nil, List.length_map, maxLen]; omega) | (simp [Tryz.t35, maxLen]; omega)) ?_
                clear H
                intro v21_5 w21_5 g21_5 H hN21_5
                try dsimp only [replC, List.cons_append, List.nil_append, List.append_nil] at H
                refine zg iA ?_
                refine LW.nil ?_
                refine blockE_norm ?_
                refine blockE_norm ?_
                refine thenE_norm ?_
                exact ⟨rfl, _, _, _, _, rfl, by simp, SH.sel (SH.evSnoc _ (SH.sel H [3, 0, 1, 2] (by decide) rfl) (EvA.plain (by simp) (fun h => by first | (simp at h; done) | (dsimp only; omega)) (by simp) (by simp))) [1, 2, 3, 0] (by decide) rfl⟩
              · try simp only [zb] at hc7
                refine CW.seq fun K19 h19 => zr ?_
                refine zg (zt iM (zt ilt iA)) (zc [1, 2, 3, 7, 8, 9, 10, 11, 12, 125] h19 fun σ => zg zm ?_); try clear h19
                refine CW.cond rfl (fun hc8 => ?_) (fun hc8 => ?_)
                · try simp only [zb] at hc8
                  refine CW.region ?_
                  refine zg (zt iM iM) ?_
                  refine zg (zk (r_rem rfl rfl rfl (by omega) (by omega) (wr_i64 (by omega) (by omega)))) ?_
                  refine zg (zk (r_buildQ rfl Tryz.underlying35 Tryz.zeroValue35 rfl (pl := [(0, 1), (1, 1), (2, 1), (3, 1), (4, 1), (5, 1), (6, 1), (7, 1)]) (by intro w; simp [go_sem]) (qs := [(0, [_]), (2, [_])]) (cs := [_, .int .i64 0, _, .int .i64 0, .float .f64 0, .int .i64 0, .string (ByteArray.mk #[]), .slice none 0 0]) ⟨rfl, cells_one EV (by first | rfl | exact Rs.oneC RS), rfl, cells_one EV (by first | rfl | exact Rs.oneC RS), trivial⟩ rfl)) ?_
                  refine r_buildSliceA (vs := [_]) rfl Tryz.underlying25 Tryz.sizeOf35 Tryz.zeroValue35 rfl rfl rfl rfl BN rfl (by intro v hv; simp only [List.mem_cons, List.not_mem_nil, or_false] at hv; rcases hv with rfl <;> rfl) ?_
                  intro b23_4 w23_4 hb23_4 hs23_4 hE23_4 hB23_4
                  replace H := SH.call H (SH.fromB hE23_4 hb23_4 hs23_4 hB23_4)
                  clear hb23_4 hs23_4 hE23_4 hB23_4
                  try dsimp only [replC, List.cons_append, List.nil_append, List.append_nil, agg, cellsL, Value.cells, List.toList_toArray, List.set_cons_zero, List.set_cons_succ, spliceL, List.take_succ_cons, List.take_zero, List.drop_succ_cons, List.drop_zero, List.length_cons, List.length_nil, Nat.reduceAdd, Row.cells, Flight.L, Hd.L, Snd.L, Ev.L] at H
                  replace H := SH.row (b := b23_4) (xs := ([⟨_, _, _, _, _, _, _, _⟩] : List Ev)) (n := 1) (cap := 1) H AT (by simp only [flat, List.flatMap_cons, List.flatMap_nil, cellsL, agg, List.append_nil, List.cons_append, List.nil_append, List.toList_toArray, Row.cells, Flight.L, Hd.L, Snd.L, Ev.L] <;> rfl) (by intro x hx; first | rfl | (simp at hx; done) | (simp only [List.mem_cons, List.not_mem_nil, or_false] at hx; rcases hx with rfl <;> first | rfl | exact (by first | rfl | assumption | exact Rs.oneC RS | (simp only [List.all_cons, List.all_nil, Bool.and_true, Bool.and_eq_true, Row.cells, Flight.L, Hd.L, Snd.L, Ev.L]; (repeat' constructor) <;> first | rfl | assumption | exact Rs.oneC RS)))) (by rfl) rfl (by decide)
                  try dsimp only [replC, List.cons_append, List.nil_append, List.append_nil, agg, cellsL, Value.cells, List.toList_toArray, List.set_cons_zero, List.set_cons_succ, spliceL, List.take_succ_cons, List.take_zero, List.drop_succ_cons, List.drop_zero, List.length_cons, List.length_nil, Nat.reduceAdd, Row.cells, Flight.L, Hd.L, Snd.L, Ev.L] at H
                  refine s_append H rfl Tryz.underlying25 Tryz.underlying25 Tryz.type35 rfl EV EV AT RS (by rfl) (by rfl) (by first | omega | (simp only [Tryz.t35, List.length_append, List.length_cons, List.length_nil, List.length_map, maxLen]; omega) | (simp [Tryz.t35, maxLen]; omega)) (by first | omega | (simp only [Tryz.t35, List.length_append, List.length_cons, List.length_nil, List.length_map, maxLen]; omega) | (simp [Tryz.t35, maxLen]; omega)) ?_
                  clear H
                  intro v23_5 w23_5 g23_5 H hN23_5
                  try dsimp only [replC, List.cons_append, List.nil_append, List.append_nil] at H
                  refine zg iA ?_
                  refine LW.nil ?_
                  refine blockE_norm ?_
                  refine blockE_norm ?_
                  refine thenE_norm ?_
                  exact ⟨rfl, _, _, _, _, rfl, by simp, SH.sel (SH.evSnoc _ (SH.sel H [3, 0, 1, 2] (by decide) rfl) (EvA.plain (by simp) (fun h => by first | (simp at h; done) | (dsimp only; omega)) (by simp) (by simp))) [1, 2, 3, 0] (by decide) rfl⟩
                · try simp only [zb] at hc8
                  refine CW.seq fun K20 h20 => zr ?_
                  refine zg (zt iM (zt ilt iA)) (zn h20 ?_); try clear h20
                  refine CW.cond rfl (fun hc9 => ?_) (fun hc9 => ?_)
                  · try simp only [zb] at hc9
                    refine CW.drawP [0, 1, 3] [] H (by dsimp only [pickC, nthC] <;> rfl) SB (by kernel_rfl) rfl ?_
                    clear H
                    intro w25d H
                    refine DL.take (i := 0) [] rfl (by kernel_rfl) (by kernel_rfl) (by kernel_rfl) (by kernel_rfl) rfl rfl (fun u H => x_move ) (SH.sub H SB) ?_
                    refine DL.take (i := 1) [] rfl (by kernel_rfl) (by kernel_rfl) (by kernel_rfl) (by kernel_rfl) rfl rfl (fun u H => x_move ) (SH.sub H SB) ?_
                    refine DL.take (i := 2) [] rfl (by kernel_rfl) (by kernel_rfl) (by kernel_rfl) (by kernel_rfl) rfl rfl (fun u H => x_move ) (SH.sub H SB) ?_
                    refine DL.take (i := 3) [] rfl (by kernel_rfl) (by kernel_rfl) (by kernel_rfl) (by kernel_rfl) rfl rfl (fun u H => x_add rfl rfl (wr_i64 (by omega) (by omega))) (SH.sub H SB) ?_
                    refine DL.take (i := 4) [] rfl (by kernel_rfl) (by kernel_rfl) (by kernel_rfl) (by kernel_rfl) rfl rfl (fun u H => x_rem rfl rfl (by omega) (by omega) (wr_i64 (by omega) (by omega))) (SH.sub H SB) ?_
                    refine DL.take (i := 5) [] rfl (by kernel_rfl) (by kernel_rfl) (by kernel_rfl) (by kernel_rfl) rfl rfl (fun u H => x_move ) (SH.sub H SB) ?_
                    refine DL.take (i := 6) [] rfl (by kernel_rfl) (by kernel_rfl) (by kernel_rfl) (by kernel_rfl) rfl rfl (fun u H => x_convI Tryz.underlying3 Tryz.underlying5 rfl (wr_u8 (by omega) (by omega))) (SH.sub H SB) ?_
                    refine DL.one (i := 7) (by kernel_rfl) rfl rfl ?_
                    refine r_call rfl Tryz.call51 HS (rates_c _ (by omega) (by omega)) ?_
                    rintro _ w25_7 ⟨y25_7, hy25_7, rfl, X⟩
                    refine ⟨_, rfl, ?_⟩
                    replace H := SH.same H X
                    clear X
                    refine LW.nil (thenE_norm ⟨fun _ => (SH.sub H SB), ?_⟩)
                    refine DL.take (i := 8) [] rfl (by kernel_rfl) (by kernel_rfl) (by kernel_rfl) (by kernel_rfl) rfl rfl (fun u H => x_buildQ Tryz.underlying35 Tryz.zeroValue35 rfl (pl := [(0, 1), (1, 1), (2, 1), (3, 1), (4, 1), (5, 1), (6, 1), (7, 1)]) (by intro w; simp [go_sem]) (qs := [(0, [_]), (1, [_]), (4, [_])]) (cs := [_, _, .int .i64 0, .int .i64 0, _, .int .i64 0, .string (ByteArray.mk #[]), .slice none 0 0]) ⟨rfl, cells_one EV (by first | rfl | exact Rs.oneC RS), rfl, cells_one EV (by first | rfl | exact Rs.oneC RS), rfl, cells_one EV (by first | rfl | exact Rs.oneC RS), trivial⟩ rfl) (SH.sub H SB) ?_
                    refine DL.one (i := 9) (by kernel_rfl) rfl rfl ?_
                    refine r_buildSliceA (vs := [_]) rfl Tryz.underlying25 Tryz.sizeOf35 Tryz.zeroValue35 rfl rfl rfl rfl BN rfl (by intro v hv; simp only [List.mem_cons, List.not_mem_nil, or_false] at hv; rcases hv with rfl <;> rfl) ?_
                    intro b25_9 w25_9 hb25_9 hs25_9 hE25_9 hB25_9
                    replace H := SH.call H (SH.fromB hE25_9 hb25_9 hs25_9 hB25_9)
                    clear hb25_9 hs25_9 hE25_9 hB25_9
                    try dsimp only [replC, List.cons_append, List.nil_append, List.append_nil, agg, cellsL, Value.cells, List.toList_toArray, List.set_cons_zero, List.set_cons_succ, spliceL, List.take_succ_cons, List.take_zero, List.drop_succ_cons, List.drop_zero, List.length_cons, List.length_nil, Nat.reduceAdd, Row.cells, Flight.L, Hd.L, Snd.L, Ev.L] at H
                    replace H := SH.row (b := b25_9) (xs := ([⟨_, _, _, _, _, _, _, _⟩] : List Ev)) (n := 1) (cap := 1) H AT (by simp only [flat, List.flatMap_cons, List.flatMap_nil, cellsL, agg, List.append_nil, List.cons_append, List.nil_append, List.toList_toArray, Row.cells, Flight.L, Hd.L, Snd.L, Ev.L] <;> rfl) (by intro x hx; first | rfl | (simp at hx; done) | (simp only [List.mem_cons, List.not_mem_nil, or_false] at hx; rcases hx with rfl <;> first | rfl | exact (by first | rfl | assumption | exact Rs.oneC RS | (simp only [List.all_cons, List.all_nil, Bool.and_true, Bool.and_eq_true, Row.cells, Flight.L, Hd.L, Snd.L, Ev.L]; (repeat' constructor) <;> first | rfl | assumption | exact Rs.oneC RS)))) (by rfl) rfl (by decide)
                    try dsimp only [replC, List.cons_append, List.nil_append, List.append_nil, agg, cellsL, Value.cells, List.toList_toArray, List.set_cons_zero, List.set_cons_succ, spliceL, List.take_succ_cons, List.take_zero, List.drop_succ_cons, List.drop_zero, List.length_cons, List.length_nil, Nat.reduceAdd, Row.cells, Flight.L, Hd.L, Snd.L, Ev.L] at H
                    refine LW.nil (thenE_norm ⟨fun _ => (SH.sub H SB), ?_⟩)
                    refine DL.one (i := 10) (by kernel_rfl) rfl rfl ?_
                    refine s_append H rfl Tryz.underlying25 Tryz.underlying25 Tryz.type35 rfl EV EV AT RS (by rfl) (by rfl) (by first | omega | (simp only [Tryz.t35, List.length_append, List.length_cons, List.length_nil, List.length_map, maxLen]; omega) | (simp [Tryz.t35, maxLen]; omega)) (by first | omega | (simp only [Tryz.t35, List.length_append, List.length_cons, List.length_nil, List.length_map, maxLen]; omega) | (simp [Tryz.t35, maxLen]; omega)) ?_
                    clear H
                    intro v25_10 w25_10 g25_10 H hN25_10
                    try dsimp only [replC, List.cons_append, List.nil_append, List.append_nil] at H
                    refine LW.nil (thenE_norm ⟨fun _ => (SH.sub H SB), ?_⟩)
                    refine DL.take (i := 11) [] rfl (by kernel_rfl) (by kernel_rfl) (by kernel_rfl) (by kernel_rfl) rfl rfl (fun u H => x_assign ) (SH.sub H SB) ?_
                    refine DL.done (by kernel_rfl) ?_
                    refine blockE_norm ?_
                    refine blockE_norm ?_
                    refine thenE_norm ?_
                    exact ⟨rfl, _, _, _, _, rfl, by simp, SH.sel (SH.evSnoc _ (SH.sel H [3, 0, 1, 2] (by decide) rfl) (.inr ⟨by simp, fun h => by simp at h, fun _ => hy25_7, fun h => by simp at h⟩)) [1, 2, 3, 0] (by decide) rfl⟩
                  · try simp only [zb] at hc9
                    refine CW.seq fun K21 h21 => zr ?_
                    refine zg (zt iM (zt ilt iA)) (zn h21 ?_); try clear h21
                    refine CW.cond rfl (fun hc10 => ?_) (fun hc10 => ?_)
                    · try simp only [zb] at hc10
                      refine CW.region ?_
                      refine zg (zt iM (zt iM (zt iM iP))) ?_
                      refine zg (zk (r_rem rfl rfl rfl (by omega) (by omega) (wr_i64 (by omega) (by omega)))) ?_
                      refine zg (zk (r_buildQ rfl Tryz.underlying35 Tryz.zeroValue35 rfl (pl := [(0, 1), (1, 1), (2, 1), (3, 1), (4, 1), (5, 1), (6, 1), (7, 1)]) (by intro w; simp [go_sem]) (qs := [(0, [_]), (1, [_])]) (cs := [_, _, .int .i64 0, .int .i64 0, .float .f64 0, .int .i64 0, .string (ByteArray.mk #[]), .slice none 0 0]) ⟨rfl, cells_one EV (by first | rfl | exact Rs.oneC RS), rfl, cells_one EV (by first | rfl | exact Rs.oneC RS), trivial⟩ rfl)) ?_
                      refine r_buildSliceA (vs := [_]) rfl Tryz.underlying25 Tryz.sizeOf35 Tryz.zeroValue35 rfl rfl rfl rfl BN rfl (by intro v hv; simp only [List.mem_cons, List.not_mem_nil, or_false] at hv; rcases hv with rfl <;> rfl) ?_
                      intro b27_6 w27_6 hb27_6 hs27_6 hE27_6 hB27_6
                      replace H := SH.call H (SH.fromB hE27_6 hb27_6 hs27_6 hB27_6)
                      clear hb27_6 hs27_6 hE27_6 hB27_6
                      try dsimp only [replC, List.cons_append, List.nil_append, List.append_nil, agg, cellsL, Value.cells, List.toList_toArray, List.set_cons_zero, List.set_cons_succ, spliceL, List.take_succ_cons, List.take_zero, List.drop_succ_cons, List.drop_zero, List.length_cons, List.length_nil, Nat.reduceAdd, Row.cells, Flight.L, Hd.L, Snd.L, Ev.L] at H
                      replace H := SH.row (b := b27_6) (xs := ([⟨_, _, _, _, _, _, _, _⟩] : List Ev)) (n := 1) (cap := 1) H AT (by simp only [flat, List.flatMap_cons, List.flatMap_nil, cellsL, agg, List.append_nil, List.cons_append, List.nil_append, List.toList_toArray, Row.cells, Flight.L, Hd.L, Snd.L, Ev.L] <;> rfl) (by intro x hx; first | rfl | (simp at hx; done) | (simp only [List.mem_cons, List.not_mem_nil, or_false] at hx; rcases hx with rfl <;> first | rfl | exact (by first | rfl | assumption | exact Rs.oneC RS | (simp only [List.all_cons, List.all_nil, Bool.and_true, Bool.and_eq_true, Row.cells, Flight.L, Hd.L, Snd.L, Ev.L]; (repeat' constructor) <;> first | rfl | assumption | exact Rs.oneC RS)))) (by rfl) rfl (by decide)
                      try dsimp only [replC, List.cons_append, List.nil_append, List.append_nil, agg, cellsL, Value.cells, List.toList_toArray, List.set_cons_zero, List.set_cons_succ, spliceL, List.take_succ_cons, List.take_zero, List.drop_succ_cons, List.drop_zero, List.length_cons, List.length_nil, Nat.reduceAdd, Row.cells, Flight.L, Hd.L, Snd.L, Ev.L] at H
                      refine s_append H rfl Tryz.underlying25 Tryz.underlying25 Tryz.type35 rfl EV EV AT RS (by rfl) (by rfl) (by first | omega | (simp only [Tryz.t35, List.length_append, List.length_cons, List.length_nil, List.length_map, maxLen]; omega) | (simp [Tryz.t35, maxLen]; omega)) (by first | omega | (simp only [Tryz.t35, List.length_append, List.length_cons, List.length_nil, List.length_map, maxLen]; omega) | (simp [Tryz.t35, maxLen]; omega)) ?_
                      clear H
                      intro v27_7 w27_7 g27_7 H hN27_7
                      try dsimp only [replC, List.cons_append, List.nil_append, List.append_nil] at H
                      refine zg iA ?_
                      refine LW.nil ?_
                      refine blockE_norm ?_
                      refine blockE_norm ?_
                      refine thenE_norm ?_
                      exact ⟨rfl, _, _, _, _, rfl, by simp, SH.sel (SH.evSnoc _ (SH.sel H [3, 0, 1, 2] (by decide) rfl) (EvA.plain (by simp) (fun h => by first | (simp at h; done) | (dsimp only; omega)) (by simp) (by simp))) [1, 2, 3, 0] (by decide) rfl⟩
                    · try simp only [zb] at hc10
                      refine CW.region ?_
                      refine zg (zt iM (zt iM (zt iM iP))) ?_
                      refine zg (zt (zk (r_rem rfl rfl rfl (by omega) (by omega) (wr_i64 (by omega) (by omega)))) (zt iM (zt iW (zt iM iW)))) ?_
                      refine r_buildSlice rfl Tryz.underlying22 Tryz.sizeOf5 Tryz.zeroValue5 rfl rfl rfl BV ?_
                      intro b7_9 w7_9 hb7_9 hs7_9 hE7_9 hB7_9
                      replace H := SH.call H (SH.fromB hE7_9 hb7_9 hs7_9 hB7_9)
                      clear hb7_9 hs7_9 hE7_9 hB7_9
                      try dsimp only [replC, List.cons_append, List.nil_append, List.append_nil, agg, cellsL, Value.cells, List.toList_toArray, List.set_cons_zero, List.set_cons_succ, spliceL, List.take_succ_cons, List.take_zero, List.drop_succ_cons, List.drop_zero, List.length_cons, List.length_nil, Nat.reduceAdd, Row.cells, Flight.L, Hd.L, Snd.L, Ev.L] at H
                      refine zg (zk (r_buildQ rfl Tryz.underlying35 Tryz.zeroValue35 rfl (pl := [(0, 1), (1, 1), (2, 1), (3, 1), (4, 1), (5, 1), (6, 1), (7, 1)]) (by intro w; simp [go_sem]) (qs := [(0, [_]), (1, [_]), (7, [_])]) (cs := [_, _, .int .i64 0, .int .i64 0, .float .f64 0, .int .i64 0, .string (ByteArray.mk #[]), _]) ⟨rfl, cells_one EV (by first | rfl | exact Rs.oneC RS), rfl, cells_one EV (by first | rfl | exact Rs.oneC RS), rfl, cells_one EV (by first | rfl | exact Rs.oneC RS), trivial⟩ rfl)) ?_
                      refine r_buildSliceA (vs := [_]) rfl Tryz.underlying25 Tryz.sizeOf35 Tryz.zeroValue35 rfl rfl rfl rfl BN rfl (by intro v hv; simp only [List.mem_cons, List.not_mem_nil, or_false] at hv; rcases hv with rfl <;> rfl) ?_
                      intro b7_11 w7_11 hb7_11 hs7_11 hE7_11 hB7_11
                      replace H := SH.call H (SH.fromB hE7_11 hb7_11 hs7_11 hB7_11)
                      clear hb7_11 hs7_11 hE7_11 hB7_11
                      try dsimp only [replC, List.cons_append, List.nil_append, List.append_nil, agg, cellsL, Value.cells, List.toList_toArray, List.set_cons_zero, List.set_cons_succ, spliceL, List.take_succ_cons, List.take_zero, List.drop_succ_cons, List.drop_zero, List.length_cons, List.length_nil, Nat.reduceAdd, Row.cells, Flight.L, Hd.L, Snd.L, Ev.L] at H
                      replace H := SH.row (b := b7_11) (xs := ([⟨_, _, _, _, _, _, _, _⟩] : List Ev)) (n := 1) (cap := 1) H AT (by simp only [flat, List.flatMap_cons, List.flatMap_nil, cellsL, agg, List.append_nil, List.cons_append, List.nil_append, List.toList_toArray, Row.cells, Flight.L, Hd.L, Snd.L, Ev.L] <;> rfl) (by intro x hx; first | rfl | (simp at hx; done) | (simp only [List.mem_cons, List.not_mem_nil, or_false] at hx; rcases hx with rfl <;> first | rfl | exact (by first | rfl | assumption | exact Rs.oneC RS | (simp only [List.all_cons, List.all_nil, Bool.and_true, Bool.and_eq_true, Row.cells, Flight.L, Hd.L, Snd.L, Ev.L]; (repeat' constructor) <;> first | rfl | assumption | exact Rs.oneC RS)))) (by rfl) rfl (by decide)
                      try dsimp only [replC, List.cons_append, List.nil_append, List.append_nil, agg, cellsL, Value.cells, List.toList_toArray, List.set_cons_zero, List.set_cons_succ, spliceL, List.take_succ_cons, List.take_zero, List.drop_succ_cons, List.drop_zero, List.length_cons, List.length_nil, Nat.reduceAdd, Row.cells, Flight.L, Hd.L, Snd.L, Ev.L] at H
                      refine s_append H rfl Tryz.underlying25 Tryz.underlying25 Tryz.type35 rfl EV EV AT RS (by rfl) (by rfl) (by first | omega | (simp only [Tryz.t35, List.length_append, List.length_cons, List.length_nil, List.length_map, maxLen]; omega) | (simp [Tryz.t35, maxLen]; omega)) (by first | omega | (simp only [Tryz.t35, List.length_append, List.length_cons, List.length_nil, List.length_map, maxLen]; omega) | (simp [Tryz.t35, maxLen]; omega)) ?_
                      clear H
                      intro v7_12 w7_12 g7_12 H hN7_12
                      try dsimp only [replC, List.cons_append, List.nil_append, List.append_nil] at H
                      refine zg iA ?_
                      refine LW.nil ?_
                      refine blockE_norm ?_
                      refine blockE_norm ?_
                      refine thenE_norm ?_
                      obtain ⟨FE', H2⟩ := SH.evInj (x := z) (y := y) ⟨9, _, 0, 0, 0, 0, _, _⟩ (SH.sel H [3, 4, 0, 1, 2] (by decide) rfl) rfl rfl
                      exact ⟨rfl, _, _, _, _, rfl, by simp, SH.sel H2 [1, 2, 3, 0] (by decide) rfl⟩
    try clear H
    rintro vs wJ σ ⟨v2, g2, evs2, FE2, rfl, hl2, H⟩
    refine zg zm ?_
    refine CW.region ?_
    refine zg (zt iM (zt iP iA)) ?_
    refine LW.nil ?_
    refine thenE_norm ⟨rfl, ?_⟩
    exact ⟨_, by omega, _, _, evs2, FE2, i + 3, rfl, by omega, by omega, by omega, rfl, H⟩
  · try simp only [zb] at hc1
    refine CW.exit (thenE_exit (thenE_exit (blockE_hit ?_)))
    refine thenE_norm (h4 _ _ ?_); clear h4; try clear K4
    refine CW.seq fun K22 h22 => zr ?_
    refine zg (zt iM iA) (zn h22 ?_); try clear h22
    refine CW.ret (ret1 Tryz.results16 EV ?_)
    exact ⟨_, _, evs, FE, rfl, hn, SH.give (SH.sel H [2, 3] (by decide) rfl) (List.Sublist.refl _) ⟨trivial, trivial, trivial⟩⟩
end Go.Proofs.YtgmmbdmdimkfjaaGreat
