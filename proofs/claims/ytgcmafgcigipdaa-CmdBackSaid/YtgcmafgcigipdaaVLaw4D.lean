/-
  The walks of layer 4's laws, the fourth part: CmdBack.
-/
import Derived.Test.YtgcmafgcigipdaaVLaw4C
import Derived.Test.YtgcmafgcigipdaaVMTurn
namespace Go.Proofs.Ytgcmafgcigipdaa
set_option linter.unusedSimpArgs false
set_option linter.unusedVariables false
open Go.V Go.RowKit

theorem CmdBack_c {F : Nat → Prop} {a : Value} {xs : List UInt8} (c q k s m ct by_ : Int) (w : World) (ha : Bs F w a xs) (hc : 0 ≤ c) (hc2 : c < 256) (hq : 0 ≤ q) (hq2 : q < 256) (hk : 0 ≤ k) (hk2 : k < 256) (hs : 0 ≤ s) (hs2 : s < 256) (hm : 0 ≤ m) (hm2 : m < 256) (ht0 : 0 ≤ ct) (ht1 : ct < 256) (hb0 : 0 ≤ by_) (hb1 : by_ < 256) :
    Calls Try.prog 13 #[.int .u8 c, .int .u8 q, .int .u8 k, .int .u8 s, .int .u8 m, a, .int .u8 ct, .int .u8 by_] w fun e w' => e = .returned (.bool true) ∧ Ext0 w w' := by
  have ha' := ha
  obtain ⟨aoa, capa, rfl, -, -, -⟩ := ha.cell
  have hmay := cmdN_may k s m hk hs hm
  have hsz := nameN_size k m hm
  generalize hK : kindN k = K at *
  generalize hN : sessN k s = N at *
  generalize hS : nameN k m = S at *
  have hreq : mayReqM (c % 8) (1 + q) K N S.data.toList = true := by simp [mayReqM, hmay]; omega
  have hput := putReq_B hreq
  have hSl : S.data.toList.length = S.size := by simp
  have hPl := reqB_len (UInt8.ofNat (c % 8).toNat) (UInt8.ofNat K.toNat) (1 + q) N S.data.toList []
  have hread := fun post => getReq_B xs post S.data.toList _ _ _ _ hreq
  obtain ⟨kk1, kk2, -, -, -⟩ := may_all hmay
  have hk8 : ((UInt8.ofNat K.toNat).toNat : Int) = K := by rw [UInt8.toNat_ofNat']; omega
  have hby8 : ((UInt8.ofNat by_.toNat).toNat : Int) = by_ := by rw [UInt8.toNat_ofNat']; omega
  have hcut := getReqM_cutOk (xs ++ reqB (UInt8.ofNat (c % 8).toNat) (UInt8.ofNat K.toNat) (1 + q) N S.data.toList []) xs.length (by rw [hread []])
  have hturn := getReq_turn [] S.data.toList (c % 8) (1 + q) N (UInt8.ofNat K.toNat) (UInt8.ofNat K.toNat ^^^ UInt8.ofNat by_.toNat) (by rw [hk8]; exact hreq)
  have hset := reqB_set (UInt8.ofNat (c % 8).toNat) (UInt8.ofNat K.toNat) (UInt8.ofNat K.toNat ^^^ UInt8.ofNat by_.toNat) (1 + q) N S.data.toList []
  have hget := reqB_get (UInt8.ofNat (c % 8).toNat) (UInt8.ofNat K.toNat) (1 + q) N S.data.toList []
  have happ := reqB_app (UInt8.ofNat (c % 8).toNat) (UInt8.ofNat K.toNat) (1 + q) N S.data.toList [7, 7]
  have hr77 := hread [7, 7]
  rw [← happ] at hr77
  rw [hread []] at hcut
  generalize hP : reqB (UInt8.ofNat (c % 8).toNat) (UInt8.ofNat K.toNat) (1 + q) N S.data.toList [] = pp at *
  simp only [List.length_nil, Nat.add_zero] at hPl
  refine calls_of_CW Try.func13 rfl Try.ntmps13 (Nat.le_of_ble_eq_true rfl) ?_
  simp only [argE, argFrom, Nat.reduceAdd]
  refine CW.seq (fun K1 h1 => ?_)
  refine CW.region ?_
  refine r_assign rfl ?_
  refine LW.nil ?_
  refine thenE_norm (h1 _ _ ?_); clear h1; try clear K1
  refine CW.seq (fun K2 h2 => ?_)
  refine CW.seq (fun K3 h3 => ?_)
  refine CW.region ?_
  refine r_move rfl ?_
  refine r_len rfl Try.underlying23 rfl ?_
  refine r_gtr rfl rfl rfl ?_
  refine LW.nil ?_
  refine thenE_norm (h3 _ _ ?_); clear h3; try clear K3
  refine CW.cond rfl (fun hc1 => ?_) (fun hc1 => ?_)
  · try simp only [decide_eq_true_eq, decide_eq_false_iff_not, Bool.and_eq_true, Bool.or_eq_true, Bool.and_eq_false_iff, Bool.or_eq_false_iff, Bool.not_eq_true', Bool.not_eq_false', beq_iff_eq, bne_iff_ne] at hc1
    refine CW.seq (fun K4 h4 => ?_)
    refine CW.region ?_
    refine r_call rfl Try.call31 rfl (awake4_c _) ?_
    rintro _ wa ⟨rfl, hEa⟩
    refine ⟨_, rfl, ?_⟩
    refine r_assign rfl ?_
    refine LW.nil ?_
    refine thenE_norm (h4 _ _ ?_); clear h4; try clear K4
    refine CW.ret (thenE_ret (ret1 Try.results13 (by simp only [upd_get, ev, Nat.reduceEqDiff, ↓reduceIte]; rfl) ?_))
    exact ⟨rfl, hEa⟩
  · try simp only [decide_eq_true_eq, decide_eq_false_iff_not, Bool.and_eq_true, Bool.or_eq_true, Bool.and_eq_false_iff, Bool.or_eq_false_iff, Bool.not_eq_true', Bool.not_eq_false', beq_iff_eq, bne_iff_ne] at hc1
    refine CW.skip ?_
    refine thenE_norm (h2 _ _ ?_); clear h2; try clear K2
    refine CW.seq (fun K5 h5 => ?_)
    refine CW.region ?_
    refine r_move rfl ?_
    refine r_move rfl ?_
    refine r_move rfl ?_
    refine r_move rfl ?_
    refine r_move rfl ?_
    refine r_call rfl Try.call47 rfl (Req_c c q k s m _ hc hc2 hq hq2 hk hk2 hs hs2 hm hm2) ?_
    rintro _ w1 ⟨rfl, hE1⟩
    refine ⟨_, rfl, ?_⟩
    rw [hK, hN, hS]
    refine r_alloc rfl Try.zeroValue53 rfl ?_
    intro b3_6 w3_6 hb3_6 hs3_6 hE3_6 hB3_6
    have r0 : Blk w3_6 b3_6 53 (reqL 0 0 0 0 (ByteArray.mk #[])) := hB3_6
    have e3 := hE1.trans hE3_6
    refine r_storeA Try.sizeOf53 rfl (by simp only [upd_get, ev, Nat.reduceEqDiff, ↓reduceIte] <;> rfl) rfl rfl rfl r0 (by decide) ?_
    intro w3_7 hs3_7 hE3_7 hB3_7
    have r0 : Blk w3_7 b3_6 53 (reqL (c % 8) (1 + q) K N S) := hB3_7
    have e3 : Ext0 w w3_7 := e3.transN hE3_7 (fun x hx => by have := hE1.size; omega)
    have dp := PutReq_c (c % 8) (1 + q) K N S w3_7 (by omega)
    rw [hput] at dp
    dsimp only at dp
    refine LW.nil ?_
    refine thenE_norm ?_
    refine cut (K := K5) [5, 6, 7, 17] (fun σ => ?_)
    simp only [setL, keepE, upd_get, ev, Nat.reduceEqDiff, ↓reduceIte]
    refine h5 _ _ ?_; clear h5; try clear K5
    refine CW.seq (fun K6 h6 => ?_)
    refine CW.region ?_
    refine r_loadA rfl Try.isAgg53 Try.sizeOf53 rfl (r0.cellsAll) rfl ?_
    refine r_call rfl Try.call41 rfl (dp) ?_
    rintro _ w4 ⟨v4, rfl, hv4, hE4⟩
    refine ⟨_, rfl, ?_⟩
    have e4 := e3.trans hE4
    have r0 := r0.up0 hE4
    have hq4 := hv4
    obtain ⟨ao4, cap4, rfl, -, -, -⟩ := hv4.cell
    refine r_move rfl ?_
    refine r_extract rfl rfl rfl ?_
    refine r_extract rfl rfl rfl ?_
    refine r_assign rfl ?_
    refine r_assign rfl ?_
    refine LW.nil ?_
    refine thenE_norm (h6 _ _ ?_); clear h6; try clear K6
    refine CW.seq (fun K7 h7 => ?_)
    refine CW.seq (fun K8 h8 => ?_)
    refine CW.region ?_
    refine r_move rfl ?_
    refine r_neq rfl rfl rfl ?_
    refine r_move rfl ?_
    refine LW.known (t := 48) (c := false) rfl rfl (fun hg5_3 => ?_)
    refine LW.want rfl rfl hg5_3 ?_
    refine r_move rfl ?_
    refine LW.want rfl rfl hg5_3 ?_
    refine r_len rfl Try.underlying23 rfl ?_
    refine LW.want rfl rfl hg5_3 ?_
    refine r_lss rfl rfl rfl ?_
    refine r_pickF rfl rfl hg5_3 ?_
    refine r_move rfl ?_
    refine LW.known (t := 53) (c := false) rfl (by rw [hPl]; simp; omega) (fun hg5_8 => ?_)
    refine LW.want rfl rfl hg5_8 ?_
    refine r_loadA rfl Try.isAgg53 Try.sizeOf53 rfl (r0.cellsAll) rfl ?_
    refine LW.want rfl rfl hg5_8 ?_
    refine r_call rfl Try.call45 rfl (MayReq_c (c % 8) (1 + q) K N S _ (by omega)) ?_
    rintro _ w5 ⟨rfl, hE5⟩
    refine ⟨_, rfl, ?_⟩
    have e5 := e4.trans hE5
    have r0 := r0.up0 hE5
    have hq5 := hq4.up0 hE5
    refine LW.want rfl rfl hg5_8 ?_
    refine r_not rfl rfl ?_
    refine r_pickF rfl rfl hg5_8 ?_
    refine LW.nil ?_
    refine thenE_norm ?_
    refine cut (K := K8) [5, 6, 7, 17, 18, 57] (fun σ => ?_)
    simp only [setL, keepE, upd_get, ev, Nat.reduceEqDiff, ↓reduceIte]
    refine h8 _ _ ?_; clear h8; try clear K8
    refine CW.condF rfl (by rw [hreq]; rfl) ?_
    refine CW.skip ?_
    refine thenE_norm (h7 _ _ ?_); clear h7; try clear K7
    refine CW.seq (fun K9 h9 => ?_)
    refine CW.region ?_
    refine r_buildSlice rfl Try.underlying23 Try.sizeOf5 Try.zeroValue5 rfl rfl rfl rfl ?_
    intro b7_0 w7_0 hb7_0 hs7_0 hE7_0 hB7_0
    have g0 : ∀ b, some b7_0 = some b → w5.heap.size ≤ b := fun b h => by cases h; omega
    have kp : Bs (fun b => b < w5.heap.size) w5 _ pp := Sl.mono hq5 (fun b hb _ => hb)
    have ka : Bs (fun b => b < w5.heap.size) w5 _ xs := Sl.mono (ha'.up0 e5) (fun b hb _ => hb)
    refine r_move rfl ?_
    refine r_append rfl Try.underlying23 (.inl ⟨_, Try.underlying23⟩) Try.type5 rfl rfl rfl rfl rfl rfl (Own.blk (n := 0) hB7_0 rfl (by decide) rfl) (Bs.src (ka.up0 hE7_0)) (by simp [maxLen]; omega) (by show (0 + xs.length) * 1 ≤ _; omega) ?_
    intro v7_2 w7_2 g7_2 hO7_2 hE7_2 hG7_2 hN7_2
    obtain ⟨f2, g2⟩ := appN hE7_0 hE7_2 g0 hG7_2
    refine r_move rfl ?_
    refine r_append rfl Try.underlying23 (.inl ⟨_, Try.underlying23⟩) Try.type5 rfl rfl rfl rfl rfl rfl hO7_2 (Bs.src (kp.up0 f2)) (by simp only [maxLen]; omega) (by show (0 + xs.length + pp.length) * 1 ≤ 140737488355328; omega) ?_
    intro v7_4 w7_4 g7_4 hO7_4 hE7_4 hG7_4 hN7_4
    obtain ⟨f4, g4⟩ := appN f2 hE7_4 g2 hG7_4
    refine r_assign rfl ?_
    refine LW.nil ?_
    refine thenE_norm (h9 _ _ ?_); clear h9; try clear K9
    refine CW.seq (fun K10 h10 => ?_)
    have hB : Bs (fun b => b < w7_4.heap.size) w7_4 v7_4 (xs ++ pp) := by
      unfold Bs
      rw [show (xs ++ pp).length = 0 + xs.length + pp.length from by simp only [List.length_append]; omega, show (xs ++ pp).map u8v = [] ++ xs.map u8v ++ pp.map u8v from by simp]
      exact hO7_4.sl.mono fun b hb _ => hb
    have hBl : (xs ++ pp).length = xs.length + pp.length := List.length_append
    have hB' := hB
    obtain ⟨aoB, capB, rfl, hlB, hmB, -⟩ := hB.cell
    have e7 := e5.trans f4
    have r0 := r0.up0 f4
    refine CW.region ?_
    refine r_move rfl ?_
    refine r_move rfl ?_
    refine r_len rfl Try.underlying23 rfl ?_
    refine r_move rfl ?_
    refine r_len rfl Try.underlying23 rfl ?_
    refine r_sliceHMc rfl Try.underlying23 Try.sizeOf5 rfl rfl rfl (by omega) (by omega) (by omega) ?_
    refine r_buildSlice rfl Try.underlying23 Try.sizeOf5 Try.zeroValue5 rfl rfl rfl rfl ?_
    intro b8_6 w8_6 hb8_6 hs8_6 hE8_6 hB8_6
    have q77 : Bs (fun _ => True) w8_6 (.slice (some ⟨b8_6, 0, none⟩) 2 2) [7, 7] := Bs.ofBlk hB8_6 trivial rfl (by decide) (by decide)
    have hU : Sl (fun _ => True) w8_6 (.slice aoB ((xs ++ pp).length : Int).toNat ((xs ++ pp).length : Int).toNat) ((xs ++ pp).length : Int).toNat ((xs ++ pp).map u8v) := by
      rw [Int.toNat_natCast]
      obtain ⟨ao', cap', e, h1, h2, h3⟩ := Sl.up0 hB' hE8_6
      cases e
      exact ⟨_, _, rfl, Nat.le_refl _, by simp only [maxLen]; omega, h3.imp id fun ⟨b, o, q1, _, q3⟩ => ⟨b, o, q1, trivial, q3⟩⟩
    refine r_appendU (F := fun _ => True) (cs := (xs ++ pp).map u8v) rfl Try.underlying23 (.inl ⟨_, Try.underlying23⟩) Try.type5 rfl rfl rfl rfl rfl rfl hU (by rw [List.length_map, Int.toNat_natCast]; exact (Nat.mul_one _).symm) (Bs.src q77) (by simp) (by simp only [maxLen, Int.toNat_natCast, List.length_cons, List.length_nil]; omega) (by show (((xs ++ pp).length : Int).toNat + 2) * 1 ≤ 140737488355328; omega) ?_
    intro v8 w8 b8 hO8 hE8 hb8
    have e8 := (e7.trans hE8_6).trans hE8
    have r0 := (r0.up0 hE8_6).up0 hE8
    have hB' := (hB'.up0 hE8_6).up0 hE8
    have z8 : Bs (fun _ => True) w8 v8 (xs ++ (pp ++ [7, 7])) := by
      unfold Bs
      rw [show (xs ++ (pp ++ ([7, 7] : List UInt8))).length = ((xs ++ pp).length : Int).toNat + [(7 : UInt8), 7].length from by simp; omega, show (xs ++ (pp ++ ([7, 7] : List UInt8))).map u8v = (xs ++ pp).map u8v ++ [(7 : UInt8), 7].map u8v from by simp]
      exact hO8.sl.mono fun _ _ _ => trivial
    have dg := GetReq_c (xs.length : Int) w8 z8
    rw [hr77] at dg
    dsimp only at dg
    rw [ba_list] at dg
    refine r_move rfl ?_
    refine r_len rfl Try.underlying23 rfl ?_
    refine r_call rfl Try.call43 rfl (dg) ?_
    rintro _ w9 ⟨rfl, hE9⟩
    refine ⟨_, rfl, ?_⟩
    have e9 := e8.trans hE9
    have r0 := r0.up0 hE9
    have hB' := hB'.up0 hE9
    refine r_move rfl ?_
    refine r_extract rfl rfl rfl ?_
    refine r_extract rfl rfl rfl ?_
    refine r_extract rfl rfl rfl ?_
    refine r_alloc rfl Try.zeroValue53 rfl ?_
    intro b8_15 w8_15 hb8_15 hs8_15 hE8_15 hB8_15
    have x0 : Blk w8_15 b8_15 53 (reqL 0 0 0 0 (ByteArray.mk #[])) := hB8_15
    have r0 := r0.up0 hE8_15
    have hB' := hB'.up0 hE8_15
    have n9 : w7_4.heap.size ≤ w9.heap.size := by have := hE8_6.size; have := hE8.size; have := hE9.size; omega
    have nr := r0.lt
    refine r_storeA Try.sizeOf53 rfl (by simp only [upd_get, ev, Nat.reduceEqDiff, ↓reduceIte] <;> rfl) rfl rfl rfl x0 (by decide) ?_
    intro w8_16 hs8_16 hE8_16 hB8_16
    have x0 : Blk w8_16 b8_15 53 (reqL (c % 8) (1 + q) K N S) := hB8_16
    have rl : b3_6 < w3_7.heap.size := by have := hE1.size; omega
    have r0 := r0.up hE8_16 (by have := hE4.size; have := hE5.size; have := f4.size; omega)
    have hB' := hB'.up hE8_16 (fun b hb h => by omega)
    have e10 : Ext0 w w8_16 := (e9.trans hE8_15).transN hE8_16 (fun x hx => by have := e9.size; omega)
    refine r_assign rfl ?_
    refine r_assign rfl ?_
    refine LW.nil ?_
    refine thenE_norm ?_
    refine cut (K := K10) [5, 6, 7, 17, 18, 20, 21, 22, 23] (fun σ => ?_)
    simp only [setL, keepE, upd_get, ev, Nat.reduceEqDiff, ↓reduceIte]
    refine h10 _ _ ?_; clear h10; try clear K10
    refine CW.seq (fun K11 h11 => ?_)
    have hk0 := Int.emod_nonneg ct (show (pp.length : Int) ≠ 0 from by omega)
    have hk1 := Int.emod_lt_of_pos ct (show 0 < (pp.length : Int) from by omega)
    refine CW.region ?_
    refine r_move rfl ?_
    refine r_move rfl ?_
    refine r_len rfl Try.underlying23 rfl ?_
    refine r_move rfl ?_
    refine r_convI rfl Try.underlying5 Try.underlying3 rfl (wr_i64 (by omega) (by omega)) ?_
    refine r_move rfl ?_
    refine r_len rfl Try.underlying23 rfl ?_
    refine r_rem rfl rfl rfl (by omega) (by omega) (wr_i64 (by omega) (by omega)) ?_
    refine r_add rfl rfl rfl (wr_i64 (by omega) (by omega)) ?_
    refine r_sliceH rfl Try.underlying23 Try.sizeOf5 rfl rfl hB' (by simp) (by omega) (by omega) ?_
    intro v9_9 hv9_9
    have hC : Bs (fun b => b < w7_4.heap.size) w8_16 v9_9 ((xs ++ pp).take ((xs.length : Int) + ct % pp.length).toNat) := by
      unfold Bs
      rw [List.length_take, Nat.min_eq_left (by omega), List.map_take]
      simpa only [Nat.mul_one] using hv9_9
    have hc2 := (hcut ((xs.length : Int) + ct % pp.length).toNat (by omega)).2 (by show (((xs.length : Int) + ct % pp.length).toNat : Int) < (xs.length : Int) + 19 + S.data.toList.length; omega)
    refine r_move rfl ?_
    refine r_len rfl Try.underlying23 rfl ?_
    refine r_call rfl Try.call43 rfl (GetReq_c (xs.length : Int) _ hC) ?_
    rintro _ w11 ⟨rfl, hE11⟩
    refine ⟨_, rfl, ?_⟩
    have e11 := e10.trans hE11
    have r0 := r0.up0 hE11
    have x0 := x0.up0 hE11
    have xl := x0.lt
    refine r_move rfl ?_
    refine r_extract rfl rfl rfl ?_
    refine r_extract rfl rfl rfl ?_
    refine r_extract rfl rfl rfl ?_
    refine r_alloc rfl Try.zeroValue53 rfl ?_
    intro b9_17 w9_17 hb9_17 hs9_17 hE9_17 hB9_17
    have r0 := r0.up0 hE9_17
    have x0 := x0.up0 hE9_17
    have hz0 := hB9_17
    refine r_storeA Try.sizeOf53 rfl (by simp only [upd_get, ev, Nat.reduceEqDiff, ↓reduceIte] <;> rfl) rfl rfl rfl hB9_17 (by decide) ?_
    intro w9_18 hs9_18 hE9_18 hB9_18
    have rl2 : b3_6 < w11.heap.size := by have := r0.lt; omega
    have r0 := r0.up hE9_18 (by omega)
    have x0 := x0.up hE9_18 (by omega)
    have e12 : Ext0 w w9_18 := (e11.trans hE9_17).transN hE9_18 (fun x hx => by have := e11.size; omega)
    refine r_assign rfl ?_
    refine r_assign rfl ?_
    refine LW.nil ?_
    refine thenE_norm ?_
    refine cut (K := K11) [7, 17, 18, 20, 21, 22, 23, 26] (fun σ => ?_)
    simp only [setL, keepE, upd_get, ev, Nat.reduceEqDiff, ↓reduceIte]
    refine h11 _ _ ?_; clear h11; try clear K11
    refine CW.seq (fun K12 h12 => ?_)
    have kp12 : Bs (fun b => b < w5.heap.size) w9_18 (.slice ao4 pp.length cap4) pp := by
      have u1 : Ext0 w5 w7_4 := f4
      have u2 : Ext0 w5 w9 := ((u1.trans hE8_6).trans hE8).trans hE9
      have u3 := kp.up0 (u2.trans hE8_15)
      have u4 := u3.up hE8_16 (fun b hb h => by have := u2.size; omega)
      have u5 := (u4.up0 hE11).up0 hE9_17
      exact u5.up hE9_18 (fun b hb h => by have := u2.size; have := hE11.size; omega)
    have e13 := e12
    refine CW.region ?_
    refine r_buildSlice rfl Try.underlying23 Try.sizeOf5 Try.zeroValue5 rfl rfl rfl rfl ?_
    intro b10_0 w10_0 hb10_0 hs10_0 hE10_0 hB10_0
    have g0c : ∀ b, some b10_0 = some b → w9_18.heap.size ≤ b := fun b h => by cases h; omega
    refine r_move rfl ?_
    refine r_append rfl Try.underlying23 (.inl ⟨_, Try.underlying23⟩) Try.type5 rfl rfl rfl rfl rfl rfl (Own.blk (n := 0) hB10_0 rfl (by decide) rfl) (Bs.src (kp12.up0 hE10_0)) (by simp only [maxLen]; omega) (by show (0 + pp.length) * 1 ≤ 140737488355328; omega) ?_
    intro v10_2 w10_2 g10_2 hO10_2 hE10_2 hG10_2 hN10_2
    obtain ⟨f10, g10⟩ := appN hE10_0 hE10_2 g0c hG10_2
    have hOc : Own 5 1 w10_2 v10_2 (0 + pp.length) (pp.map u8v) g10_2 := hO10_2
    have r0 := r0.up0 f10
    have x0 := x0.up0 f10
    refine r_assign rfl ?_
    refine LW.nil ?_
    refine thenE_norm (h12 _ _ ?_); clear h12; try clear K12
    refine CW.seq (fun K13 h13 => ?_)
    obtain ⟨bq, cq, cur, hgq, hvq, hbq, hcl, hce, hset2⟩ := hOc.cellB 9 (by omega)
    subst hvq
    rw [hget] at hce
    have rl3 : b3_6 < w9_18.heap.size := by have := hE9_17.size; omega
    have xl3 : b8_15 < w9_18.heap.size := by have := hE9_17.size; omega
    have gq := g10 bq hgq
    refine CW.region ?_
    refine r_move rfl ?_
    refine r_indexAddr rfl Try.underlying23 Try.sizeOf5 rfl rfl (by decide) (by omega) ?_
    refine r_load rfl Try.isAgg5 rfl hce ?_
    refine r_move rfl ?_
    refine r_xor rfl rfl rfl (show bits .xor .u8 _ by_ = (((UInt8.ofNat K.toNat ^^^ UInt8.ofNat by_.toNat).toNat : Nat) : Int) from by have hxo := xor_u8 (UInt8.ofNat K.toNat) (UInt8.ofNat by_.toNat); rw [hby8] at hxo; exact hxo) ?_
    refine r_indexAddr rfl Try.underlying23 Try.sizeOf5 rfl rfl (by decide) (by omega) ?_
    refine r_store Try.sizeOf5 rfl (by simp only [upd_get, ev, Nat.reduceEqDiff, ↓reduceIte] <;> rfl) rfl hbq (by show 0 + 9 * 1 < cur.length; omega) ?_
    intro w11_6 hs11_6 hE11_6 hB11_6
    have r0 := r0.up hE11_6 (by omega)
    have x0 := x0.up hE11_6 (by omega)
    have e14 : Ext0 w w11_6 := (e13.trans f10).transN hE11_6 (fun x hx => by have := e13.size; omega)
    have hOd := hset2 w11_6 (UInt8.ofNat K.toNat ^^^ UInt8.ofNat by_.toNat) hB11_6
    rw [hset] at hOd
    have hDl : (reqB (UInt8.ofNat (c % 8).toNat) (UInt8.ofNat K.toNat ^^^ UInt8.ofNat by_.toNat) (1 + q) N S.data.toList []).length = 0 + pp.length := by rw [reqB_len]; simp only [List.length_nil]; omega
    have hD : Bs (fun _ => True) w11_6 (.slice (some ⟨bq, 0, none⟩) (0 + pp.length) cq) (reqB (UInt8.ofNat (c % 8).toNat) (UInt8.ofNat K.toNat ^^^ UInt8.ofNat by_.toNat) (1 + q) N S.data.toList []) := by
      unfold Bs
      rw [hDl]
      exact hOd.sl.mono fun _ _ _ => trivial
    have dz := GetReq_c 0 w11_6 hD
    generalize getReqM (reqB (UInt8.ofNat (c % 8).toNat) (UInt8.ofNat K.toNat ^^^ UInt8.ofNat by_.toNat) (1 + q) N S.data.toList []) 0 = G at *
    try simp only [Nat.zero_add, Nat.mul_one] at hB11_6
    refine LW.nil ?_
    refine thenE_norm ?_
    refine cut (K := K13) [7, 17, 20, 21, 22, 23, 26, 27] (fun σ => ?_)
    simp only [setL, keepE, upd_get, ev, Nat.reduceEqDiff, ↓reduceIte]
    refine h13 _ _ ?_; clear h13; try clear K13
    refine CW.seq (fun K14 h14 => ?_)
    refine CW.region ?_
    refine r_move rfl ?_
    refine r_call rfl Try.call43 rfl (dz) ?_
    rintro _ w15 ⟨rfl, hE15⟩
    refine ⟨_, rfl, ?_⟩
    have r0 := r0.up0 hE15
    have x0 := x0.up0 hE15
    have e15 := e14.trans hE15
    have s15 := hE15.size
    have rl4 := r0.lt
    have xl4 := x0.lt
    refine r_move rfl ?_
    refine r_extract rfl rfl rfl ?_
    refine r_extract rfl rfl rfl ?_
    refine r_extract rfl rfl rfl ?_
    refine r_alloc rfl Try.zeroValue53 rfl ?_
    intro b12_6 w12_6 hb12_6 hs12_6 hE12_6 hB12_6
    have y0 : Blk w12_6 b12_6 53 (reqL 0 0 0 0 (ByteArray.mk #[])) := hB12_6
    have r0 := r0.up0 hE12_6
    have x0 := x0.up0 hE12_6
    refine r_storeA Try.sizeOf53 rfl (by simp only [upd_get, ev, Nat.reduceEqDiff, ↓reduceIte] <;> rfl) rfl rfl rfl y0 (by decide) ?_
    intro w12_7 hs12_7 hE12_7 hB12_7
    have y0 : Blk w12_7 b12_6 53 (reqL G.1.1 G.1.2.1 G.1.2.2.1 G.1.2.2.2.1 ⟨G.1.2.2.2.2.toArray⟩) := hB12_7
    have r0 := r0.up hE12_7 (by omega)
    have x0 := x0.up hE12_7 (by omega)
    have e16 : Ext0 w w12_7 := (e15.trans hE12_6).transN hE12_7 (fun x hx => by have := e15.size; omega)
    refine r_assign rfl ?_
    refine r_assign rfl ?_
    refine LW.nil ?_
    refine thenE_norm ?_
    refine cut (K := K14) [7, 17, 20, 21, 22, 23, 26, 28, 30] (fun σ => ?_)
    simp only [setL, keepE, upd_get, ev, Nat.reduceEqDiff, ↓reduceIte]
    refine h14 _ _ ?_; clear h14; try clear K14
    refine CW.seq (fun K15 h15 => ?_)
    refine CW.region ?_
    refine r_move rfl ?_
    refine r_eql rfl rfl rfl ?_
    refine r_move rfl ?_
    refine LW.known (t := 112) (c := true) rfl rfl (fun hg13_3 => ?_)
    refine LW.want rfl rfl hg13_3 ?_
    refine r_loadA rfl Try.isAgg53 Try.sizeOf53 rfl (x0.cellsAll) rfl ?_
    refine LW.want rfl rfl hg13_3 ?_
    refine r_loadA rfl Try.isAgg53 Try.sizeOf53 rfl (r0.cellsAll) rfl ?_
    refine LW.want rfl rfl hg13_3 ?_
    refine r_eqlG rfl (by kernel_rfl) rfl rfl (EqA.struct Try.underlying53 (by kernel_rfl) (EqF.one rfl Try.isAgg3 rfl rfl (EqA.int Try.underlying3) (EqF.one rfl Try.isAgg3 rfl rfl (EqA.int Try.underlying3) (EqF.agg rfl Try.isAgg42 Try.sizeOf42 (EqA.struct Try.underlying42 (by kernel_rfl) (EqF.one rfl Try.isAgg3 rfl rfl (EqA.int Try.underlying3) (EqF.one rfl Try.isAgg3 rfl rfl (EqA.int Try.underlying3) (EqF.one rfl Try.isAgg9 rfl rfl (EqA.str Try.underlying9) EqF.nil)))) EqF.nil)))) ?_
    refine r_pickT rfl rfl hg13_3 ?_
    refine r_move rfl ?_
    refine LW.known (t := 117) (c := true) rfl (by simp) (fun hg13_8 => ?_)
    refine LW.want rfl rfl hg13_8 ?_
    refine r_move rfl ?_
    refine LW.want rfl rfl hg13_8 ?_
    refine r_move rfl ?_
    refine LW.want rfl rfl hg13_8 ?_
    refine r_len rfl Try.underlying23 rfl ?_
    refine LW.want rfl rfl hg13_8 ?_
    refine r_eql rfl rfl rfl ?_
    refine r_pickT rfl rfl hg13_8 ?_
    refine r_move rfl ?_
    refine LW.known (t := 123) (c := true) rfl (by simp; omega) (fun hg13_14 => ?_)
    refine LW.want rfl rfl hg13_14 ?_
    refine r_move rfl ?_
    refine LW.want rfl rfl hg13_14 ?_
    refine r_eql rfl rfl rfl ?_
    refine r_pickT rfl rfl hg13_14 ?_
    refine r_move rfl ?_
    refine LW.known (t := 127) (c := true) rfl (by rw [hc2]; rfl) (fun hg13_18 => ?_)
    refine LW.want rfl rfl hg13_18 ?_
    refine r_move rfl ?_
    refine LW.want rfl rfl hg13_18 ?_
    refine r_neq rfl rfl rfl ?_
    refine LW.want rfl rfl hg13_18 ?_
    refine r_move rfl ?_
    refine' LW.grpOr (n := 7) (ts := [127, 139]) (d := 137) (tj := 130) rfl (fun hg13_21 => ?_) (fun hg13_21 => ?_) (fun σ => ?_)
    rotate_left
    · simp only [List.take_succ_cons, List.take_zero]
      have hg13_21P := hg13_21
      try simp only [decide_eq_true_eq, decide_eq_false_iff_not, Bool.and_eq_true, Bool.or_eq_true, Bool.and_eq_false_iff, Bool.or_eq_false_iff, Bool.not_eq_true', Bool.not_eq_false', beq_iff_eq, bne_iff_ne] at hg13_21P
      refine LW.want rfl rfl hg13_21 ?_
      refine r_loadA rfl Try.isAgg53 Try.sizeOf53 rfl (y0.cellsAll) rfl ?_
      refine LW.want rfl rfl hg13_21 ?_
      refine r_loadA rfl Try.isAgg53 Try.sizeOf53 rfl (r0.cellsAll) rfl ?_
      refine LW.want rfl rfl hg13_21 ?_
      refine r_eqlG rfl (by kernel_rfl) rfl rfl (EqA.struct Try.underlying53 (by kernel_rfl) (EqF.one rfl Try.isAgg3 rfl rfl (EqA.int Try.underlying3) (EqF.one rfl Try.isAgg3 rfl rfl (EqA.int Try.underlying3) (EqF.agg rfl Try.isAgg42 Try.sizeOf42 (EqA.struct Try.underlying42 (by kernel_rfl) (EqF.one rfl Try.isAgg3 rfl rfl (EqA.int Try.underlying3) (EqF.one rfl Try.isAgg3 rfl rfl (EqA.int Try.underlying3) (EqF.one rfl Try.isAgg9 rfl rfl (EqA.str Try.underlying9) EqF.nil)))) EqF.nil)))) ?_
      refine LW.want rfl rfl hg13_21 ?_
      refine r_move rfl ?_
      refine LW.want rfl rfl hg13_21 ?_
      refine r_eql rfl rfl rfl ?_
      refine LW.want rfl rfl hg13_21 ?_
      refine r_eqlB rfl Try.underlying4 rfl rfl ?_
      refine LW.want rfl rfl hg13_18 ?_
      refine r_pickF rfl rfl hg13_21 ?_
      refine LW.nil (thenE_norm ⟨rfl, rfl, rfl⟩)
    · simp only [List.take_succ_cons, List.take_zero]
      refine LW.skip rfl (fun _ e => by cases e; decide) rfl hg13_21 ?_
      refine LW.skip rfl (fun _ e => by cases e; decide) rfl hg13_21 ?_
      refine LW.skip rfl (fun _ e => by cases e; decide) rfl hg13_21 ?_
      refine LW.skip rfl (fun _ e => by cases e; decide) rfl hg13_21 ?_
      refine LW.skip rfl (fun _ e => by cases e; decide) rfl hg13_21 ?_
      refine LW.skip rfl (fun _ e => by cases e; decide) rfl hg13_21 ?_
      refine LW.want rfl rfl hg13_18 ?_
      refine r_pickT rfl rfl hg13_21 ?_
      refine LW.nil (thenE_norm ⟨rfl, rfl, rfl⟩)
    simp only [setL, keepE, upd_get, ev, Nat.reduceEqDiff, ↓reduceIte]; simp only [List.drop_succ_cons, List.drop_zero]
    refine r_pickT rfl rfl hg13_18 ?_
    refine r_move rfl ?_
    have hxk : (((UInt8.ofNat K.toNat ^^^ UInt8.ofNat by_.toNat).toNat : Nat) : Int) = K ↔ by_ = 0 := by
      have hx := xor_same (UInt8.ofNat K.toNat) (UInt8.ofNat by_.toNat)
      constructor
      · intro h
        have h2 : UInt8.ofNat K.toNat ^^^ UInt8.ofNat by_.toNat = UInt8.ofNat K.toNat := UInt8.toNat_inj.1 (by omega)
        have := hx.1 h2
        omega
      · intro h
        have h2 : UInt8.ofNat K.toNat ^^^ UInt8.ofNat by_.toNat = UInt8.ofNat K.toNat := hx.2 (by omega)
        rw [h2, hk8]
    have hxd : decide ((((UInt8.ofNat K.toNat ^^^ UInt8.ofNat by_.toNat).toNat : Nat) : Int) = K) = decide (by_ = 0) := by rw [decide_eq_decide]; exact hxk
    refine LW.known (t := 139) (c := true) rfl (by
  rcases hturn with h4 | ⟨h0, h1⟩
  · rw [h4]; rfl
  · rw [h0, h1]; dsimp only; rw [ba_list, hxd]; simp) (fun hg13_30 => ?_)
    have hxk : (((UInt8.ofNat K.toNat ^^^ UInt8.ofNat by_.toNat).toNat : Nat) : Int) = K ↔ by_ = 0 := by
      have hx := xor_same (UInt8.ofNat K.toNat) (UInt8.ofNat by_.toNat)
      constructor
      · intro h
        have h2 : UInt8.ofNat K.toNat ^^^ UInt8.ofNat by_.toNat = UInt8.ofNat K.toNat := UInt8.toNat_inj.1 (by omega)
        have := hx.1 h2
        omega
      · intro h
        have h2 : UInt8.ofNat K.toNat ^^^ UInt8.ofNat by_.toNat = UInt8.ofNat K.toNat := hx.2 (by omega)
        rw [h2, hk8]
    have hxd : decide ((((UInt8.ofNat K.toNat ^^^ UInt8.ofNat by_.toNat).toNat : Nat) : Int) = K) = decide (by_ = 0) := by rw [decide_eq_decide]; exact hxk
    refine LW.want rfl rfl hg13_30 ?_
    refine r_call rfl Try.call31 rfl (awake4_c _) ?_
    rintro _ wa ⟨rfl, hEa⟩
    refine ⟨_, rfl, ?_⟩
    refine r_pickT rfl rfl hg13_30 ?_
    refine r_assign rfl ?_
    refine LW.nil ?_
    refine thenE_norm (h15 _ _ ?_); clear h15; try clear K15
    refine CW.ret (ret1 Try.results13 (by simp only [upd_get, ev, Nat.reduceEqDiff, ↓reduceIte]; rfl) ?_)
    exact ⟨rfl, e16.trans hEa⟩
end Go.Proofs.Ytgcmafgcigipdaa
