/-
  The walks of layer 4's laws: CmdNames.
-/
import Derived.Test.YtgcmafgcigipdaaVObj
import Derived.Test.YtgcmafgcigipdaaVStrS
import Derived.Test.YtgcmafgcigipdaaVLaw4A
namespace Go.Proofs.Ytgcmafgcigipdaa
set_option linter.unusedSimpArgs false
set_option linter.unusedVariables false
set_option maxRecDepth 20000
open Go.V Go.RowKit Go.ChangeShapes Go.WideShapes

/-- The signs of names. -/
def of37 : List UInt8 := [97, 98, 99, 100, 101, 102, 103, 104, 105, 106, 107, 108, 109, 110, 111, 112, 113, 114, 115, 116, 117, 118, 119, 120, 121, 122, 48, 49, 50, 51, 52, 53, 54, 55, 56, 57, 45]
def sign (x : UInt8) : UInt8 := of37.getD (x.toNat % 37) 0
theorem of37_all : of37.all isN = true := by decide +kernel
theorem sign_ok (x : UInt8) : isN (sign x) = true := by
  have h : x.toNat % 37 < of37.length := Nat.mod_lt _ (by decide)
  rw [sign, List.getD_eq_getElem?_getD, List.getElem?_eq_getElem h]
  exact List.all_eq_true.1 of37_all _ (List.getElem_mem h)
theorem of37_fin : ∀ n : Fin 256, (of37.any fun x => decide (x.toNat = n.val)) = isN (UInt8.ofNat n.val) := by decide +kernel
theorem of37_isN (b : UInt8) : (of37.any fun x => decide ((x.toNat : Int) = (b.toNat : Int))) = isN b := by
  have h := of37_fin ⟨b.toNat, b.toNat_lt⟩
  simp only [UInt8.ofNat_toNat] at h
  rw [← h]
  congr 1
  funext x
  rw [decide_eq_decide]
  exact Int.ofNat_inj
theorem of37_sub (i : Nat) (h : i < 37) : (of37.take (i + 1)).drop i = [of37.getD i 0] := by
  have hl : i < of37.length := h
  rw [List.drop_take, show i + 1 - i = 1 by omega, List.drop_eq_getElem_cons hl, List.take_succ_cons, List.take_zero, List.getD_eq_getElem?_getD, List.getElem?_eq_getElem hl]
  rfl
theorem all_sign : ∀ (ns : List UInt8), (ns.map sign).all isN = true
  | [] => rfl
  | x :: r => by rw [List.map_cons, List.all_cons, sign_ok, all_sign r]; rfl
theorem zeros_no (n : Nat) : nameM (List.replicate n (0 : UInt8)) = false := by
  cases n with
  | zero => rfl
  | succ n =>
    have : (List.replicate (n + 1) (0 : UInt8)).all isN = false := by
      rw [List.replicate_succ, List.all_cons]
      rfl
    rw [nameM, this, Bool.and_false]
theorem nameM_iff {l : List UInt8} (h1 : 1 ≤ l.length) (h2 : l.length ≤ 12) (h : l.all isN = true) : nameM l = true := by
  rw [nameM, decide_eq_true h1, decide_eq_true h2, h]; rfl
theorem nameM_turn {l : List UInt8} {b : UInt8} {k : Nat} (h2 : l.length ≤ 12) (hk : k < l.length) (h : l.all isN = true) : nameM (l.take k ++ [b] ++ l.drop (k + 1)) = isN b := by
  have hl : (l.take k ++ [b] ++ l.drop (k + 1)).length = l.length := by simp; omega
  have h1 : (l.take k).all isN = true := List.all_eq_true.2 fun x hx => List.all_eq_true.1 h x (List.mem_of_mem_take hx)
  have h3 : (l.drop (k + 1)).all isN = true := List.all_eq_true.2 fun x hx => List.all_eq_true.1 h x (List.mem_of_mem_drop hx)
  rw [nameM, hl, decide_eq_true (by omega), decide_eq_true h2, List.all_append, List.all_append, h1, h3, List.all_cons, List.all_nil]
  cases isN b <;> rfl
theorem nameM_more {l : List UInt8} (h1 : 1 ≤ l.length) (h2 : l.length ≤ 12) (h : l.all isN = true) : nameM (l ++ [120]) = decide (l.length < 12) := by
  rw [nameM, List.length_append, List.length_singleton, List.all_append, h, decide_eq_true (by omega)]
  show (true && decide (l.length + 1 ≤ 12) && (true && ([120] : List UInt8).all isN)) = _
  rw [show ([120] : List UInt8).all isN = true from by decide, Bool.true_and, Bool.true_and, Bool.and_true]
  rw [decide_eq_decide]; omega
def ofB : ByteArray := ByteArray.mk #[97, 98, 99, 100, 101, 102, 103, 104, 105, 106, 107, 108, 109, 110, 111, 112, 113, 114, 115, 116, 117, 118, 119, 120, 121, 122, 48, 49, 50, 51, 52, 53, 54, 55, 56, 57, 45]
theorem ofB_size : ofB.size = 37 := rfl
theorem ofB_list : ofB.data.toList = of37 := rfl
theorem ba_size (a : ByteArray) : a.data.toList.length = a.size := by rw [Array.length_toList]; rfl
theorem ba_plus (a b : ByteArray) : (a ++ b).size = a.size + b.size := by rw [← ba_size, ba_app, List.length_append, ba_size, ba_size]
theorem ext_size (s : ByteArray) (i j : Nat) : (s.extract i j).size = min j s.size - i := by rw [← ba_size, ext_list, List.length_drop, List.length_take, ba_size]
set_option maxHeartbeats 16000000 in
theorem CmdNames_c {F : Nat → Prop} {v : Value} {ns : List UInt8} (a by_ : Int) (w : World) (hv : Rs F w v ns) (a0 : 0 ≤ a) (a1 : a < 256) (b0 : 0 ≤ by_) (b1 : by_ < 256) :
    Calls Try.prog 10 #[v, .int .u8 a, .int .u8 by_] w fun e w' => e = .returned (.bool true) ∧ Ext0 w w' := by
  obtain ⟨b, rfl⟩ : ∃ b : UInt8, by_ = (b.toNat : Int) := ⟨UInt8.ofNat by_.toNat, by rw [UInt8.toNat_ofNat']; omega⟩
  have H := (SH.start w).arg hv
  have h63 := hv.len63
  refine calls_of_CW Try.func10 rfl Try.ntmps10 (Nat.le_of_ble_eq_true rfl) ?_
  simp only [argE, argFrom, Nat.reduceAdd]
  refine CW.seq (fun K1 h1 => ?_)
  refine CW.region ?_
  refine r_assign rfl ?_
  refine LW.nil ?_
  refine thenE_norm (h1 _ _ ?_); clear h1; try clear K1
  refine CW.seq (fun K2 h2 => ?_)
  refine CW.region ?_
  refine r_assign rfl ?_
  refine LW.nil ?_
  refine thenE_norm (h2 _ _ ?_); clear h2; try clear K2
  refine CW.seq (fun K3 h3 => ?_)
  refine CW.seq (fun K4 h4 => ?_)
  refine CW.region ?_
  refine r_move rfl ?_
  first
    | refine r_lenV rfl Try.underlying23 (by simp only [upd_get, ev, Nat.reduceEqDiff, ↓reduceIte] <;> rfl) (by first | assumption | exact SH.rsR H (by (repeat first | exact At.here | apply At.there); done) | exact SH.rsO H (by (repeat first | exact At.here | apply At.there); done) | exact Rs.toH (by first | assumption | exact SH.rsR H (by (repeat first | exact At.here | apply At.there); done) | exact SH.rsO H (by (repeat first | exact At.here | apply At.there); done)) (by omega) | exact Rs.toL (by first | assumption | exact SH.rsR H (by (repeat first | exact At.here | apply At.there); done) | exact SH.rsO H (by (repeat first | exact At.here | apply At.there); done)) (by omega) | exact Rs.toLH (by first | assumption | exact SH.rsR H (by (repeat first | exact At.here | apply At.there); done) | exact SH.rsO H (by (repeat first | exact At.here | apply At.there); done)) (by omega) (by omega) | exact (Rs.nil : Rs Non _ _ _)) ?_
    | refine r_len rfl Try.underlying23 rfl ?_
  refine r_eql rfl rfl rfl ?_
  refine r_move rfl ?_
  refine' LW.grpOr (n := 4) (ts := [0, 1, 2, 7]) (d := 21) (tj := 17) rfl (fun hg2_4 => ?_) (fun hg2_4 => ?_) (fun σ => ?_)
  rotate_left
  · simp only [List.take_succ_cons, List.take_zero]
    have hg2_4P := hg2_4
    try simp only [decide_eq_true_eq, decide_eq_false_iff_not, Bool.and_eq_true, Bool.or_eq_true, Bool.and_eq_false_iff, Bool.or_eq_false_iff, Bool.not_eq_true', Bool.not_eq_false', beq_iff_eq, bne_iff_ne] at hg2_4P
    refine LW.want rfl rfl hg2_4 ?_
    refine r_move rfl ?_
    refine LW.want rfl rfl hg2_4 ?_
    first
      | refine r_lenV rfl Try.underlying23 (by simp only [upd_get, ev, Nat.reduceEqDiff, ↓reduceIte] <;> rfl) (by first | assumption | exact SH.rsR H (by (repeat first | exact At.here | apply At.there); done) | exact SH.rsO H (by (repeat first | exact At.here | apply At.there); done) | exact Rs.toH (by first | assumption | exact SH.rsR H (by (repeat first | exact At.here | apply At.there); done) | exact SH.rsO H (by (repeat first | exact At.here | apply At.there); done)) (by omega) | exact Rs.toL (by first | assumption | exact SH.rsR H (by (repeat first | exact At.here | apply At.there); done) | exact SH.rsO H (by (repeat first | exact At.here | apply At.there); done)) (by omega) | exact Rs.toLH (by first | assumption | exact SH.rsR H (by (repeat first | exact At.here | apply At.there); done) | exact SH.rsO H (by (repeat first | exact At.here | apply At.there); done)) (by omega) (by omega) | exact (Rs.nil : Rs Non _ _ _)) ?_
      | refine r_len rfl Try.underlying23 rfl ?_
    refine LW.want rfl rfl hg2_4 ?_
    refine r_gtr rfl rfl rfl ?_
    refine r_pickF rfl rfl hg2_4 ?_
    refine LW.nil (thenE_norm ⟨rfl, rfl, rfl⟩)
  · simp only [List.take_succ_cons, List.take_zero]
    refine LW.skip rfl (fun _ e => by cases e; decide) rfl hg2_4 ?_
    refine LW.skip rfl (fun _ e => by cases e; decide) rfl hg2_4 ?_
    refine LW.skip rfl (fun _ e => by cases e; decide) rfl hg2_4 ?_
    refine r_pickT rfl rfl hg2_4 ?_
    refine LW.nil (thenE_norm ⟨rfl, rfl, rfl⟩)
  simp only [setL, keepE, upd_get, ev, Nat.reduceEqDiff, ↓reduceIte]; simp only [List.drop_succ_cons, List.drop_zero]
  refine LW.nil ?_
  refine thenE_norm (h4 _ _ ?_); clear h4; try clear K4
  refine CW.cond rfl (fun hc1 => ?_) (fun hc1 => ?_)
  · try simp only [decide_eq_true_eq, decide_eq_false_iff_not, Bool.and_eq_true, Bool.or_eq_true, Bool.and_eq_false_iff, Bool.or_eq_false_iff, Bool.not_eq_true', Bool.not_eq_false', beq_iff_eq, bne_iff_ne, ne_eq, Decidable.not_not] at hc1
    refine CW.seq (fun K5 h5 => ?_)
    refine CW.region ?_
    refine r_move rfl ?_
    first
      | refine r_lenV rfl Try.underlying23 (by simp only [upd_get, ev, Nat.reduceEqDiff, ↓reduceIte] <;> rfl) (by first | assumption | exact SH.rsR H (by (repeat first | exact At.here | apply At.there); done) | exact SH.rsO H (by (repeat first | exact At.here | apply At.there); done) | exact Rs.toH (by first | assumption | exact SH.rsR H (by (repeat first | exact At.here | apply At.there); done) | exact SH.rsO H (by (repeat first | exact At.here | apply At.there); done)) (by omega) | exact Rs.toL (by first | assumption | exact SH.rsR H (by (repeat first | exact At.here | apply At.there); done) | exact SH.rsO H (by (repeat first | exact At.here | apply At.there); done)) (by omega) | exact Rs.toLH (by first | assumption | exact SH.rsR H (by (repeat first | exact At.here | apply At.there); done) | exact SH.rsO H (by (repeat first | exact At.here | apply At.there); done)) (by omega) (by omega) | exact (Rs.nil : Rs Non _ _ _)) ?_
      | refine r_len rfl Try.underlying23 rfl ?_
    refine r_rem rfl rfl rfl (by omega) (by omega) (wr_i64 (by omega) (by omega)) ?_
    refine s_make (0 : UInt8) H rfl Try.underlying23 Try.type5 rfl rfl rfl rfl rfl rfl rfl rfl (by omega) (by show (1 : Int) * _ ≤ _; omega) (by omega) ?_
    clear H
    intro b3_3 w3_3 H
    try dsimp only [replC, List.cons_append, List.nil_append, List.append_nil, agg, cellsL, Value.cells, List.toList_toArray, List.set_cons_zero, List.set_cons_succ, spliceL, List.take_succ_cons, List.take_zero, List.drop_succ_cons, List.drop_zero, List.length_cons, List.length_nil, Nat.reduceAdd, Row.cells] at H
    refine r_b2sV rfl Try.underlying23 Try.underlying5 Try.underlying9 (by simp only [upd_get, ev, Nat.reduceEqDiff, ↓reduceIte] <;> rfl) (by first | assumption | exact SH.rsR H (by (repeat first | exact At.here | apply At.there); done) | exact SH.rsO H (by (repeat first | exact At.here | apply At.there); done) | exact Rs.toH (by first | assumption | exact SH.rsR H (by (repeat first | exact At.here | apply At.there); done) | exact SH.rsO H (by (repeat first | exact At.here | apply At.there); done)) (by omega) | exact Rs.toL (by first | assumption | exact SH.rsR H (by (repeat first | exact At.here | apply At.there); done) | exact SH.rsO H (by (repeat first | exact At.here | apply At.there); done)) (by omega) | exact Rs.toLH (by first | assumption | exact SH.rsR H (by (repeat first | exact At.here | apply At.there); done) | exact SH.rsO H (by (repeat first | exact At.here | apply At.there); done)) (by omega) (by omega) | exact (Rs.nil : Rs Non _ _ _)) (fun _ => rfl) ?_
    refine r_call rfl Try.call38 (by simp only [List.map_cons, List.map_nil, List.map_toArray, List.toList_toArray, upd_get, ev, Nat.reduceEqDiff, ↓reduceIte] <;> rfl) (Name_c _ _ (by show (List.replicate _ (0 : UInt8)).toArray.size ≤ _; simp; omega)) ?_
    rintro _ _ ⟨rfl, rfl⟩
    refine ⟨_, rfl, ?_⟩
    refine r_not rfl rfl ?_
    refine r_move rfl ?_
    refine LW.known (t := 29) (c := true) rfl (by
  show (!nameM (List.replicate _ (0 : UInt8)).toArray.toList) = true
  rw [List.toList_toArray, zeros_no]; rfl) (fun hg3_8 => ?_)
    refine LW.want rfl rfl hg3_8 ?_
    refine r_call rfl Try.call31 (by simp only [List.map_cons, List.map_nil, List.map_toArray, List.toList_toArray, upd_get, ev, Nat.reduceEqDiff, ↓reduceIte] <;> rfl) (awake4_c _) ?_
    rintro _ wa ⟨rfl, X⟩
    refine ⟨_, rfl, ?_⟩
    replace H := SH.same H X
    clear X
    refine r_pickT rfl rfl hg3_8 ?_
    refine r_assign rfl ?_
    refine LW.nil ?_
    refine thenE_norm ?_
    refine cut (K := K5) [6] (fun σ => ?_)
    simp only [setL, keepE, upd_get, ev, Nat.reduceEqDiff, ↓reduceIte]
    refine h5 _ _ ?_; clear h5; try clear K5
    refine CW.ret (thenE_ret (ret1 Try.results10 (by simp only [upd_get, ev, Nat.reduceEqDiff, ↓reduceIte]; rfl) ?_))
    exact ⟨rfl, H.ext⟩
  · try simp only [decide_eq_true_eq, decide_eq_false_iff_not, Bool.and_eq_true, Bool.or_eq_true, Bool.and_eq_false_iff, Bool.or_eq_false_iff, Bool.not_eq_true', Bool.not_eq_false', beq_iff_eq, bne_iff_ne, ne_eq, Decidable.not_not] at hc1
    have hn1 : 1 ≤ ns.length ∧ ns.length ≤ 12 := by
      first
        | omega
        | (simp at hc1; omega)
        | (simp at hc1; obtain ⟨q1, q2⟩ := hc1; have : ns.length ≠ 0 := fun e => q1 (List.eq_nil_of_length_eq_zero e); omega)
    refine CW.skip ?_
    refine thenE_norm (h3 _ _ ?_); clear h3; try clear K3
    refine CW.seq (fun K6 h6 => ?_)
    refine CW.region ?_
    refine r_assign rfl ?_
    refine LW.nil ?_
    refine thenE_norm (h6 _ _ ?_); clear h6; try clear K6
    refine CW.seq (fun K7 h7 => ?_)
    refine CW.seq (fun K8 h8 => ?_)
    refine CW.region ?_
    refine r_assign rfl ?_
    refine LW.nil ?_
    refine thenE_norm (h8 _ _ ?_); clear h8; try clear K8
    refine CW.block ?_
    refine CW.loopR [0, 1, 2, 7] [8, 9] (fun m vs w' => ∃ (i : Nat) (s : ByteArray), vs = [.string s, .int .i64 i] ∧ i ≤ ns.length ∧ m = ns.length - i ∧ s.data.toList = (ns.take i).map sign ∧ SH Non Any w w' [.R (Old w) v ns]) (ns.length) ?_ ?_
    · exact ⟨0, ByteArray.mk #[], rfl, by omega, by omega, rfl, H⟩
    try clear H
    rintro n1 vs1 wL1 σ ⟨i, s, rfl, hi, rfl, hsl, H⟩
    simp only [setL, keepE, upd_get, ev, Nat.reduceEqDiff, ↓reduceIte]
    refine CW.seq (fun K9 h9 => ?_)
    refine CW.seq (fun K10 h10 => ?_)
    refine CW.region ?_
    refine r_move rfl ?_
    refine r_move rfl ?_
    first
      | refine r_lenV rfl Try.underlying23 (by simp only [upd_get, ev, Nat.reduceEqDiff, ↓reduceIte] <;> rfl) (by first | assumption | exact SH.rsR H (by (repeat first | exact At.here | apply At.there); done) | exact SH.rsO H (by (repeat first | exact At.here | apply At.there); done) | exact Rs.toH (by first | assumption | exact SH.rsR H (by (repeat first | exact At.here | apply At.there); done) | exact SH.rsO H (by (repeat first | exact At.here | apply At.there); done)) (by omega) | exact Rs.toL (by first | assumption | exact SH.rsR H (by (repeat first | exact At.here | apply At.there); done) | exact SH.rsO H (by (repeat first | exact At.here | apply At.there); done)) (by omega) | exact Rs.toLH (by first | assumption | exact SH.rsR H (by (repeat first | exact At.here | apply At.there); done) | exact SH.rsO H (by (repeat first | exact At.here | apply At.there); done)) (by omega) (by omega) | exact (Rs.nil : Rs Non _ _ _)) ?_
      | refine r_len rfl Try.underlying23 rfl ?_
    refine r_lss rfl rfl rfl ?_
    refine LW.nil ?_
    refine thenE_norm (h10 _ _ ?_); clear h10; try clear K10
    refine CW.cond rfl (fun hc2 => ?_) (fun hc2 => ?_)
    · try simp only [decide_eq_true_eq, decide_eq_false_iff_not, Bool.and_eq_true, Bool.or_eq_true, Bool.and_eq_false_iff, Bool.or_eq_false_iff, Bool.not_eq_true', Bool.not_eq_false', beq_iff_eq, bne_iff_ne, ne_eq, Decidable.not_not] at hc2
      refine CW.skip ?_
      refine thenE_norm (h9 _ _ ?_); clear h9; try clear K9
      refine CW.seq (fun K11 h11 => ?_)
      refine CW.block ?_
      obtain ⟨x, hx⟩ := get_of_lt (show i < ns.length by omega)
      have hxb := x.toNat_lt
      have hss : s.size = i := by rw [← ba_size, hsl, List.length_map, List.length_take]; omega
      refine CW.drawH [] H (List.Sublist.refl _) (by kernel_rfl) rfl ?_
      clear H
      intro w8d H
      refine DL.take (i := 0) [] rfl (by kernel_rfl) (by kernel_rfl) (by kernel_rfl) (by kernel_rfl) rfl rfl (fun u H => x_move ) H ?_
      refine DL.take (i := 1) [] rfl (by kernel_rfl) (by kernel_rfl) (by kernel_rfl) (by kernel_rfl) rfl rfl (fun u H => x_move ) H ?_
      refine DL.take (i := 2) [] rfl (by kernel_rfl) (by kernel_rfl) (by kernel_rfl) (by kernel_rfl) rfl rfl (fun u H => x_move ) H ?_
      refine DL.take (i := 3) [] rfl (by kernel_rfl) (by kernel_rfl) (by kernel_rfl) (by kernel_rfl) rfl rfl (fun u H => x_move ) H ?_
      refine DL.take (i := 4) [] rfl (by kernel_rfl) (by kernel_rfl) (by kernel_rfl) (by kernel_rfl) rfl rfl (fun u H => x_indexAddrV Try.underlying23 (by simp only [upd_get, ev, Nat.reduceEqDiff, ↓reduceIte] <;> rfl) rfl (by first | assumption | exact SH.rsR H (by (repeat first | exact At.here | apply At.there); done) | exact SH.rsO H (by (repeat first | exact At.here | apply At.there); done) | exact Rs.toH (by first | assumption | exact SH.rsR H (by (repeat first | exact At.here | apply At.there); done) | exact SH.rsO H (by (repeat first | exact At.here | apply At.there); done)) (by omega) | exact Rs.toL (by first | assumption | exact SH.rsR H (by (repeat first | exact At.here | apply At.there); done) | exact SH.rsO H (by (repeat first | exact At.here | apply At.there); done)) (by omega) | exact Rs.toLH (by first | assumption | exact SH.rsR H (by (repeat first | exact At.here | apply At.there); done) | exact SH.rsO H (by (repeat first | exact At.here | apply At.there); done)) (by omega) (by omega) | exact (Rs.nil : Rs Non _ _ _)) (by exact Try.sizeOf5) (by omega) (by omega)) H ?_
      refine DL.take (i := 5) [] rfl (by kernel_rfl) (by kernel_rfl) (by kernel_rfl) (by kernel_rfl) rfl rfl (fun u H => x_load Try.isAgg5 rfl (by first | exact Rs.cell (by first | assumption | exact SH.rsR H (by (repeat first | exact At.here | apply At.there); done) | exact SH.rsO H (by (repeat first | exact At.here | apply At.there); done) | exact Rs.toH (by first | assumption | exact SH.rsR H (by (repeat first | exact At.here | apply At.there); done) | exact SH.rsO H (by (repeat first | exact At.here | apply At.there); done)) (by omega) | exact Rs.toL (by first | assumption | exact SH.rsR H (by (repeat first | exact At.here | apply At.there); done) | exact SH.rsO H (by (repeat first | exact At.here | apply At.there); done)) (by omega) | exact Rs.toLH (by first | assumption | exact SH.rsR H (by (repeat first | exact At.here | apply At.there); done) | exact SH.rsO H (by (repeat first | exact At.here | apply At.there); done)) (by omega) (by omega) | exact (Rs.nil : Rs Non _ _ _)) (by assumption) (by rfl) | exact Rs.cell0 (by first | assumption | exact SH.rsR H (by (repeat first | exact At.here | apply At.there); done) | exact SH.rsO H (by (repeat first | exact At.here | apply At.there); done) | exact Rs.toH (by first | assumption | exact SH.rsR H (by (repeat first | exact At.here | apply At.there); done) | exact SH.rsO H (by (repeat first | exact At.here | apply At.there); done)) (by omega) | exact Rs.toL (by first | assumption | exact SH.rsR H (by (repeat first | exact At.here | apply At.there); done) | exact SH.rsO H (by (repeat first | exact At.here | apply At.there); done)) (by omega) | exact Rs.toLH (by first | assumption | exact SH.rsR H (by (repeat first | exact At.here | apply At.there); done) | exact SH.rsO H (by (repeat first | exact At.here | apply At.there); done)) (by omega) (by omega) | exact (Rs.nil : Rs Non _ _ _)) (by assumption) (by rfl) | assumption)) H ?_
      refine DL.take (i := 6) [] rfl (by kernel_rfl) (by kernel_rfl) (by kernel_rfl) (by kernel_rfl) rfl rfl (fun u H => x_convI Try.underlying5 Try.underlying3 rfl (wr_i64 (by omega) (by omega))) H ?_
      refine DL.take (i := 7) [] rfl (by kernel_rfl) (by kernel_rfl) (by kernel_rfl) (by kernel_rfl) rfl rfl (fun u H => x_rem rfl rfl (by omega) (by omega) (wr_i64 (by omega) (by omega))) H ?_
      refine DL.take (i := 8) [] rfl (by kernel_rfl) (by kernel_rfl) (by kernel_rfl) (by kernel_rfl) rfl rfl (fun u H => x_move ) H ?_
      refine DL.take (i := 9) [] rfl (by kernel_rfl) (by kernel_rfl) (by kernel_rfl) (by kernel_rfl) rfl rfl (fun u H => x_move ) H ?_
      refine DL.take (i := 10) [] rfl (by kernel_rfl) (by kernel_rfl) (by kernel_rfl) (by kernel_rfl) rfl rfl (fun u H => x_indexAddrV Try.underlying23 (by simp only [upd_get, ev, Nat.reduceEqDiff, ↓reduceIte] <;> rfl) rfl (by first | assumption | exact SH.rsR H (by (repeat first | exact At.here | apply At.there); done) | exact SH.rsO H (by (repeat first | exact At.here | apply At.there); done) | exact Rs.toH (by first | assumption | exact SH.rsR H (by (repeat first | exact At.here | apply At.there); done) | exact SH.rsO H (by (repeat first | exact At.here | apply At.there); done)) (by omega) | exact Rs.toL (by first | assumption | exact SH.rsR H (by (repeat first | exact At.here | apply At.there); done) | exact SH.rsO H (by (repeat first | exact At.here | apply At.there); done)) (by omega) | exact Rs.toLH (by first | assumption | exact SH.rsR H (by (repeat first | exact At.here | apply At.there); done) | exact SH.rsO H (by (repeat first | exact At.here | apply At.there); done)) (by omega) (by omega) | exact (Rs.nil : Rs Non _ _ _)) (by exact Try.sizeOf5) (by omega) (by omega)) H ?_
      refine DL.take (i := 11) [] rfl (by kernel_rfl) (by kernel_rfl) (by kernel_rfl) (by kernel_rfl) rfl rfl (fun u H => x_load Try.isAgg5 rfl (by first | exact Rs.cell (by first | assumption | exact SH.rsR H (by (repeat first | exact At.here | apply At.there); done) | exact SH.rsO H (by (repeat first | exact At.here | apply At.there); done) | exact Rs.toH (by first | assumption | exact SH.rsR H (by (repeat first | exact At.here | apply At.there); done) | exact SH.rsO H (by (repeat first | exact At.here | apply At.there); done)) (by omega) | exact Rs.toL (by first | assumption | exact SH.rsR H (by (repeat first | exact At.here | apply At.there); done) | exact SH.rsO H (by (repeat first | exact At.here | apply At.there); done)) (by omega) | exact Rs.toLH (by first | assumption | exact SH.rsR H (by (repeat first | exact At.here | apply At.there); done) | exact SH.rsO H (by (repeat first | exact At.here | apply At.there); done)) (by omega) (by omega) | exact (Rs.nil : Rs Non _ _ _)) (by assumption) (by rfl) | exact Rs.cell0 (by first | assumption | exact SH.rsR H (by (repeat first | exact At.here | apply At.there); done) | exact SH.rsO H (by (repeat first | exact At.here | apply At.there); done) | exact Rs.toH (by first | assumption | exact SH.rsR H (by (repeat first | exact At.here | apply At.there); done) | exact SH.rsO H (by (repeat first | exact At.here | apply At.there); done)) (by omega) | exact Rs.toL (by first | assumption | exact SH.rsR H (by (repeat first | exact At.here | apply At.there); done) | exact SH.rsO H (by (repeat first | exact At.here | apply At.there); done)) (by omega) | exact Rs.toLH (by first | assumption | exact SH.rsR H (by (repeat first | exact At.here | apply At.there); done) | exact SH.rsO H (by (repeat first | exact At.here | apply At.there); done)) (by omega) (by omega) | exact (Rs.nil : Rs Non _ _ _)) (by assumption) (by rfl) | assumption)) H ?_
      refine DL.take (i := 12) [] rfl (by kernel_rfl) (by kernel_rfl) (by kernel_rfl) (by kernel_rfl) rfl rfl (fun u H => x_convI Try.underlying5 Try.underlying3 rfl (wr_i64 (by omega) (by omega))) H ?_
      refine DL.take (i := 13) [] rfl (by kernel_rfl) (by kernel_rfl) (by kernel_rfl) (by kernel_rfl) rfl rfl (fun u H => x_rem rfl rfl (by omega) (by omega) (wr_i64 (by omega) (by omega))) H ?_
      refine DL.take (i := 14) [] rfl (by kernel_rfl) (by kernel_rfl) (by kernel_rfl) (by kernel_rfl) rfl rfl (fun u H => x_add rfl rfl (wr_i64 (by omega) (by omega))) H ?_
      refine DL.take (i := 15) [] rfl (by kernel_rfl) (by kernel_rfl) (by kernel_rfl) (by kernel_rfl) rfl rfl (fun u H => x_sliceSLH Try.underlying9 rfl rfl rfl (by omega) (by omega) (by show _ ≤ ((37 : Nat) : Int); omega)) H ?_
      refine DL.take (i := 16) [] rfl (by kernel_rfl) (by kernel_rfl) (by kernel_rfl) (by kernel_rfl) rfl rfl (fun u H => x_addS rfl rfl (by have h9 := ext_size ofB ((x.toNat : Int) % 37).toNat ((x.toNat : Int) % 37 + 1).toNat; rw [ofB_size] at h9; show s.size + (ofB.extract _ _).size ≤ _; omega)) H ?_
      refine DL.take (i := 17) [] rfl (by kernel_rfl) (by kernel_rfl) (by kernel_rfl) (by kernel_rfl) rfl rfl (fun u H => x_assign ) H ?_
      refine DL.done (by kernel_rfl) ?_
      refine blockE_norm ?_
      refine thenE_norm (h11 _ _ ?_); clear h11; try clear K11
      refine CW.region ?_
      refine r_move rfl ?_
      refine r_add rfl rfl rfl (wr_i64 (by omega) (by omega)) ?_
      refine r_assign rfl ?_
      refine LW.nil ?_
      refine thenE_norm ⟨rfl, ?_⟩
      refine ⟨ns.length - (i + 1), by omega, i + 1, s ++ ofB.extract ((x.toNat : Int) % 37).toNat ((x.toNat : Int) % 37 + 1).toNat, rfl, by omega, rfl, ?_, H⟩
      rw [ba_app, hsl, ext_list, ofB_list, show ((x.toNat : Int) % 37).toNat = x.toNat % 37 by omega, show ((x.toNat : Int) % 37 + 1).toNat = x.toNat % 37 + 1 by omega, of37_sub _ (Nat.mod_lt _ (by decide)), V.take_snoc hx, List.map_append]
      rfl
    · try simp only [decide_eq_true_eq, decide_eq_false_iff_not, Bool.and_eq_true, Bool.or_eq_true, Bool.and_eq_false_iff, Bool.or_eq_false_iff, Bool.not_eq_true', Bool.not_eq_false', beq_iff_eq, bne_iff_ne, ne_eq, Decidable.not_not] at hc2
      refine CW.exit (thenE_exit (thenE_exit (blockE_hit ?_)))
      refine thenE_norm (h7 _ _ ?_); clear h7; try clear K7
      refine CW.seq (fun K12 h12 => ?_)
      obtain rfl : i = ns.length := by omega
      rw [List.take_length] at hsl
      have hss : s.size = ns.length := by rw [← ba_size, hsl, List.length_map]
      have hall : s.data.toList.all isN = true := by rw [hsl]; exact all_sign ns
      have hk0 : 0 ≤ a % (s.size : Int) := Int.emod_nonneg _ (by omega)
      have hk1 : a % (s.size : Int) < s.size := Int.emod_lt_of_pos _ (by omega)
      refine CW.region ?_
      refine r_move rfl ?_
      refine r_convI rfl Try.underlying5 Try.underlying3 rfl (wr_i64 (by omega) (by omega)) ?_
      refine r_move rfl ?_
      refine r_lenS rfl Try.underlying9 rfl ?_
      refine r_rem rfl rfl rfl (by omega) (by omega) (wr_i64 (by omega) (by omega)) ?_
      refine r_assign rfl ?_
      refine LW.nil ?_
      refine thenE_norm ?_
      refine cut (K := K12) [2, 7, 8, 10] (fun σ => ?_)
      simp only [setL, keepE, upd_get, ev, Nat.reduceEqDiff, ↓reduceIte]
      refine h12 _ _ ?_; clear h12; try clear K12
      refine CW.seq (fun K13 h13 => ?_)
      generalize hk : a % (s.size : Int) = k at *
      refine CW.region ?_
      refine r_assign rfl ?_
      refine LW.nil ?_
      refine thenE_norm (h13 _ _ ?_); clear h13; try clear K13
      refine CW.seq (fun K14 h14 => ?_)
      refine CW.seq (fun K15 h15 => ?_)
      refine CW.region ?_
      refine r_assign rfl ?_
      refine LW.nil ?_
      refine thenE_norm (h15 _ _ ?_); clear h15; try clear K15
      refine CW.block ?_
      refine CW.loopR [2, 7, 8, 10] [11, 12] (fun m vs w' => ∃ i : Nat, vs = [.bool ((of37.take i).any fun x => decide ((x.toNat : Int) = (b.toNat : Int))), .int .i64 i] ∧ i ≤ 37 ∧ m = 37 - i ∧ SH Non Any w w' [.R (Old w) v ns]) (37) ?_ ?_
      · exact ⟨0, rfl, by omega, rfl, H⟩
      try clear H
      rintro n2 vs2 wL2 σ ⟨i, rfl, hi, rfl, H⟩
      simp only [setL, keepE, upd_get, ev, Nat.reduceEqDiff, ↓reduceIte]
      refine CW.seq (fun K16 h16 => ?_)
      refine CW.seq (fun K17 h17 => ?_)
      refine CW.region ?_
      refine r_move rfl ?_
      refine r_move rfl ?_
      refine r_lenS rfl Try.underlying9 rfl ?_
      rw [show (ByteArray.mk #[97, 98, 99, 100, 101, 102, 103, 104, 105, 106, 107, 108, 109, 110, 111, 112, 113, 114, 115, 116, 117, 118, 119, 120, 121, 122, 48, 49, 50, 51, 52, 53, 54, 55, 56, 57, 45]).size = 37 from rfl]
      refine r_lss rfl rfl rfl ?_
      refine LW.nil ?_
      refine thenE_norm (h17 _ _ ?_); clear h17; try clear K17
      refine CW.cond rfl (fun hc3 => ?_) (fun hc3 => ?_)
      · try simp only [decide_eq_true_eq, decide_eq_false_iff_not, Bool.and_eq_true, Bool.or_eq_true, Bool.and_eq_false_iff, Bool.or_eq_false_iff, Bool.not_eq_true', Bool.not_eq_false', beq_iff_eq, bne_iff_ne, ne_eq, Decidable.not_not] at hc3
        refine CW.skip ?_
        refine thenE_norm (h16 _ _ ?_); clear h16; try clear K16
        refine CW.seq (fun K18 h18 => ?_)
        refine CW.block ?_
        obtain ⟨z, hz⟩ := get_of_lt (show i < of37.length by show i < 37; omega)
        have hgz : of37.getD i 0 = z := by rw [List.getD_eq_getElem?_getD, hz]; rfl
        refine CW.region ?_
        refine r_move rfl ?_
        refine r_move rfl ?_
        refine LW.splitB (t := 67) rfl (fun hg14_2 => ?_) (fun hg14_2 => ?_)
        · have hg14_2P := hg14_2
          try simp only [decide_eq_true_eq, decide_eq_false_iff_not, Bool.and_eq_true, Bool.or_eq_true, Bool.and_eq_false_iff, Bool.or_eq_false_iff, Bool.not_eq_true', Bool.not_eq_false', beq_iff_eq, bne_iff_ne] at hg14_2P
          refine LW.skip rfl (fun _ e => by cases e; decide) rfl hg14_2 ?_
          refine LW.skip rfl (fun _ e => by cases e; decide) rfl hg14_2 ?_
          refine LW.skip rfl (fun _ e => by cases e; decide) rfl hg14_2 ?_
          refine LW.skip rfl (fun _ e => by cases e; decide) rfl hg14_2 ?_
          refine LW.skip rfl (fun _ e => by cases e; decide) rfl hg14_2 ?_
          refine r_pickT rfl rfl hg14_2 ?_
          refine r_assign rfl ?_
          refine LW.nil ?_
          refine blockE_norm ?_
          refine thenE_norm (h18 _ _ ?_); clear h18; try clear K18
          refine CW.region ?_
          refine r_move rfl ?_
          refine r_add rfl rfl rfl (wr_i64 (by omega) (by omega)) ?_
          refine r_assign rfl ?_
          refine LW.nil ?_
          refine thenE_norm ⟨rfl, ?_⟩
          exact ⟨37 - (i + 1), by omega, i + 1, by rw [V.take_snoc hz, List.any_append, hg14_2]; rfl, by omega, rfl, H⟩
        · have hg14_2P := hg14_2
          try simp only [decide_eq_true_eq, decide_eq_false_iff_not, Bool.and_eq_true, Bool.or_eq_true, Bool.and_eq_false_iff, Bool.or_eq_false_iff, Bool.not_eq_true', Bool.not_eq_false', beq_iff_eq, bne_iff_ne] at hg14_2P
          refine LW.want rfl rfl hg14_2 ?_
          refine r_move rfl ?_
          refine LW.want rfl rfl hg14_2 ?_
          refine r_move rfl ?_
          refine LW.want rfl rfl hg14_2 ?_
          refine r_indexS rfl Try.underlying9 rfl rfl (by omega) (by show _ < 37; omega) ?_
          refine LW.want rfl rfl hg14_2 ?_
          refine r_move rfl ?_
          refine LW.want rfl rfl hg14_2 ?_
          refine r_eql rfl rfl rfl ?_
          refine r_pickF rfl rfl hg14_2 ?_
          refine r_assign rfl ?_
          refine LW.nil ?_
          refine blockE_norm ?_
          refine thenE_norm (h18 _ _ ?_); clear h18; try clear K18
          refine CW.region ?_
          refine r_move rfl ?_
          refine r_add rfl rfl rfl (wr_i64 (by omega) (by omega)) ?_
          refine r_assign rfl ?_
          refine LW.nil ?_
          refine thenE_norm ⟨rfl, ?_⟩
          refine ⟨37 - (i + 1), by omega, i + 1, ?_, by omega, rfl, H⟩
          rw [V.take_snoc hz, List.any_append, hg14_2, Bool.false_or, List.any_cons, List.any_nil, Bool.or_false, ← hgz]
          rfl
      · try simp only [decide_eq_true_eq, decide_eq_false_iff_not, Bool.and_eq_true, Bool.or_eq_true, Bool.and_eq_false_iff, Bool.or_eq_false_iff, Bool.not_eq_true', Bool.not_eq_false', beq_iff_eq, bne_iff_ne, ne_eq, Decidable.not_not] at hc3
        refine CW.exit (thenE_exit (thenE_exit (blockE_hit ?_)))
        refine thenE_norm (h14 _ _ ?_); clear h14; try clear K14
        refine CW.seq (fun K19 h19 => ?_)
        obtain rfl : i = 37 := by omega
        rw [List.take_of_length_le (show of37.length ≤ 37 from Nat.le_refl _), of37_isN b]
        refine CW.drawH [] H (List.Sublist.refl _) (by kernel_rfl) rfl ?_
        clear H
        intro w15d H
        refine DL.take (i := 0) [] rfl (by kernel_rfl) (by kernel_rfl) (by kernel_rfl) (by kernel_rfl) rfl rfl (fun u H => x_move ) H ?_
        refine DL.take (i := 1) [] rfl (by kernel_rfl) (by kernel_rfl) (by kernel_rfl) (by kernel_rfl) rfl rfl (fun u H => x_move ) H ?_
        refine DL.take (i := 2) [] rfl (by kernel_rfl) (by kernel_rfl) (by kernel_rfl) (by kernel_rfl) rfl rfl (fun u H => x_sliceSH Try.underlying9 rfl rfl (by omega) (by omega)) H ?_
        refine DL.take (i := 3) [] rfl (by kernel_rfl) (by kernel_rfl) (by kernel_rfl) (by kernel_rfl) rfl rfl (fun u H => x_move ) H ?_
        refine DL.take (i := 7) [] rfl (by kernel_rfl) (by kernel_rfl) (by kernel_rfl) (by kernel_rfl) rfl rfl (fun u H => x_move ) H ?_
        refine DL.take (i := 8) [] rfl (by kernel_rfl) (by kernel_rfl) (by kernel_rfl) (by kernel_rfl) rfl rfl (fun u H => x_move ) H ?_
        refine DL.take (i := 9) [] rfl (by kernel_rfl) (by kernel_rfl) (by kernel_rfl) (by kernel_rfl) rfl rfl (fun u H => x_add rfl rfl (wr_i64 (by omega) (by omega))) H ?_
        refine DL.take (i := 10) [] rfl (by kernel_rfl) (by kernel_rfl) (by kernel_rfl) (by kernel_rfl) rfl rfl (fun u H => x_sliceSL Try.underlying9 rfl rfl (by omega) (by omega)) H ?_
        refine DL.one (i := 4) (by kernel_rfl) rfl rfl ?_
        refine r_buildSlice rfl Try.underlying23 Try.sizeOf5 Try.zeroValue5 rfl rfl rfl (by simp only [List.map_cons, List.map_nil, List.toList_toArray, List.foldl_cons, List.foldl_nil, List.replicate_succ, List.replicate_zero, List.set_cons_zero, List.set_cons_succ, upd_get, ev, Nat.reduceEqDiff, ↓reduceIte] <;> rfl) ?_
        intro b15_4 w15_4 hb15_4 hs15_4 hE15_4 hB15_4
        replace H := SH.call H (SH.fromB hE15_4 hb15_4 hs15_4 hB15_4)
        clear hb15_4 hs15_4 hE15_4 hB15_4
        try dsimp only [replC, List.cons_append, List.nil_append, List.append_nil, agg, cellsL, Value.cells, List.toList_toArray, List.set_cons_zero, List.set_cons_succ, spliceL, List.take_succ_cons, List.take_zero, List.drop_succ_cons, List.drop_zero, List.length_cons, List.length_nil, Nat.reduceAdd, Row.cells] at H
        replace H := SH.row (b := b15_4) (xs := ([b] : List UInt8)) (n := 1) (cap := 1) H (by (repeat first | exact At.here | apply At.there); done) (by rfl) (by intro x hx; first | rfl | (simp at hx; done) | (simp only [List.mem_cons, List.not_mem_nil, or_false] at hx; rcases hx with rfl <;> first | rfl | exact (by first | rfl | assumption | exact Rs.oneC (by first | assumption | exact SH.rsR H (by (repeat first | exact At.here | apply At.there); done) | exact SH.rsO H (by (repeat first | exact At.here | apply At.there); done) | exact Rs.toH (by first | assumption | exact SH.rsR H (by (repeat first | exact At.here | apply At.there); done) | exact SH.rsO H (by (repeat first | exact At.here | apply At.there); done)) (by omega) | exact Rs.toL (by first | assumption | exact SH.rsR H (by (repeat first | exact At.here | apply At.there); done) | exact SH.rsO H (by (repeat first | exact At.here | apply At.there); done)) (by omega) | exact Rs.toLH (by first | assumption | exact SH.rsR H (by (repeat first | exact At.here | apply At.there); done) | exact SH.rsO H (by (repeat first | exact At.here | apply At.there); done)) (by omega) (by omega) | exact (Rs.nil : Rs Non _ _ _)) | (simp only [List.all_cons, List.all_nil, Bool.and_true, Bool.and_eq_true, Row.cells]; (repeat' constructor) <;> first | rfl | assumption | exact Rs.oneC (by first | assumption | exact SH.rsR H (by (repeat first | exact At.here | apply At.there); done) | exact SH.rsO H (by (repeat first | exact At.here | apply At.there); done) | exact Rs.toH (by first | assumption | exact SH.rsR H (by (repeat first | exact At.here | apply At.there); done) | exact SH.rsO H (by (repeat first | exact At.here | apply At.there); done)) (by omega) | exact Rs.toL (by first | assumption | exact SH.rsR H (by (repeat first | exact At.here | apply At.there); done) | exact SH.rsO H (by (repeat first | exact At.here | apply At.there); done)) (by omega) | exact Rs.toLH (by first | assumption | exact SH.rsR H (by (repeat first | exact At.here | apply At.there); done) | exact SH.rsO H (by (repeat first | exact At.here | apply At.there); done)) (by omega) (by omega) | exact (Rs.nil : Rs Non _ _ _)))))) (by rfl) rfl (by decide)
        try dsimp only [replC, List.cons_append, List.nil_append, List.append_nil, agg, cellsL, Value.cells, List.toList_toArray, List.set_cons_zero, List.set_cons_succ, spliceL, List.take_succ_cons, List.take_zero, List.drop_succ_cons, List.drop_zero, List.length_cons, List.length_nil, Nat.reduceAdd, Row.cells] at H
        refine LW.nil (thenE_norm ⟨fun _ => (SH.sub H (by repeat first | exact List.Sublist.refl _ | exact List.nil_sublist _ | apply List.Sublist.cons_cons | apply List.Sublist.cons)), ?_⟩)
        refine DL.one (i := 5) (by kernel_rfl) rfl rfl ?_
        refine r_b2sV rfl Try.underlying23 Try.underlying5 Try.underlying9 (by simp only [upd_get, ev, Nat.reduceEqDiff, ↓reduceIte] <;> rfl) (by first | assumption | exact SH.rsR H (by (repeat first | exact At.here | apply At.there); done) | exact SH.rsO H (by (repeat first | exact At.here | apply At.there); done) | exact Rs.toH (by first | assumption | exact SH.rsR H (by (repeat first | exact At.here | apply At.there); done) | exact SH.rsO H (by (repeat first | exact At.here | apply At.there); done)) (by omega) | exact Rs.toL (by first | assumption | exact SH.rsR H (by (repeat first | exact At.here | apply At.there); done) | exact SH.rsO H (by (repeat first | exact At.here | apply At.there); done)) (by omega) | exact Rs.toLH (by first | assumption | exact SH.rsR H (by (repeat first | exact At.here | apply At.there); done) | exact SH.rsO H (by (repeat first | exact At.here | apply At.there); done)) (by omega) (by omega) | exact (Rs.nil : Rs Non _ _ _)) (fun _ => rfl) ?_
        refine LW.nil (thenE_norm ⟨fun _ => (SH.sub H (by repeat first | exact List.Sublist.refl _ | exact List.nil_sublist _ | apply List.Sublist.cons_cons | apply List.Sublist.cons)), ?_⟩)
        refine DL.take (i := 6) [] rfl (by kernel_rfl) (by kernel_rfl) (by kernel_rfl) (by kernel_rfl) rfl rfl (fun u H => x_addS rfl rfl (by have h9 := ext_size s 0 k.toNat; have h8 : (ByteArray.mk [b].toArray).size = 1 := rfl; omega)) (SH.sub H (by repeat first | exact List.Sublist.refl _ | exact List.nil_sublist _ | apply List.Sublist.cons_cons | apply List.Sublist.cons)) ?_
        refine DL.take (i := 11) [] rfl (by kernel_rfl) (by kernel_rfl) (by kernel_rfl) (by kernel_rfl) rfl rfl (fun u H => x_addS rfl rfl (by have h9 := ext_size s 0 k.toNat; have h7 := ext_size s (k + 1).toNat s.size; have h8 : (ByteArray.mk [b].toArray).size = 1 := rfl; rw [ba_plus]; omega)) (SH.sub H (by repeat first | exact List.Sublist.refl _ | exact List.nil_sublist _ | apply List.Sublist.cons_cons | apply List.Sublist.cons)) ?_
        refine DL.take (i := 12) [] rfl (by kernel_rfl) (by kernel_rfl) (by kernel_rfl) (by kernel_rfl) rfl rfl (fun u H => x_assign ) (SH.sub H (by repeat first | exact List.Sublist.refl _ | exact List.nil_sublist _ | apply List.Sublist.cons_cons | apply List.Sublist.cons)) ?_
        refine DL.done (by kernel_rfl) ?_
        refine thenE_norm ?_
        refine cut (K := K19) [8, 11, 13] (fun σ => ?_)
        simp only [setL, keepE, upd_get, ev, Nat.reduceEqDiff, ↓reduceIte]
        refine h19 _ _ ?_; clear h19; try clear K19
        refine CW.seq (fun K20 h20 => ?_)
        have htl : (s.extract 0 k.toNat ++ ByteArray.mk [b].toArray ++ s.extract (k + 1).toNat s.size).data.toList = s.data.toList.take k.toNat ++ [b] ++ s.data.toList.drop (k.toNat + 1) := by
          rw [ba_app, ba_app, ext_list, ext_list, List.drop_zero, ← ba_size s, List.take_length, show (k + 1).toNat = k.toNat + 1 by omega]
        have hts : (s.extract 0 k.toNat ++ ByteArray.mk [b].toArray ++ s.extract (k + 1).toNat s.size).size ≤ 9223372036854775807 := by
          rw [← ba_size, htl]; simp only [List.length_append, List.length_take, List.length_drop, List.length_singleton, ba_size]; omega
        generalize hT : s.extract 0 k.toNat ++ ByteArray.mk [b].toArray ++ s.extract (k + 1).toNat s.size = t at *
        have hl12 : s.data.toList.length = ns.length := by rw [ba_size, hss]
        have hn1' := nameM_iff (by omega) (by omega) hall
        have hn2' : nameM t.data.toList = isN b := by rw [htl]; exact nameM_turn (by omega) (by omega) hall
        have hn3' : nameM (s ++ ByteArray.mk #[120]).data.toList = decide (ns.length < 12) := by
          rw [ba_app, show (ByteArray.mk #[120]).data.toList = [120] from rfl, nameM_more (by omega) (by omega) hall, hl12]
        refine CW.region ?_
        refine r_move rfl ?_
        refine r_call rfl Try.call38 (by simp only [List.map_cons, List.map_nil, List.map_toArray, List.toList_toArray, upd_get, ev, Nat.reduceEqDiff, ↓reduceIte] <;> rfl) (Name_c _ _ (by omega)) ?_
        rintro _ _ ⟨rfl, rfl⟩
        refine ⟨_, rfl, ?_⟩
        rw [hn1']
        refine r_move rfl ?_
        refine LW.known (t := 88) (c := true) rfl rfl (fun hg16_3 => ?_)
        refine LW.want rfl rfl hg16_3 ?_
        refine r_move rfl ?_
        refine LW.want rfl rfl hg16_3 ?_
        refine r_call rfl Try.call38 (by simp only [List.map_cons, List.map_nil, List.map_toArray, List.toList_toArray, upd_get, ev, Nat.reduceEqDiff, ↓reduceIte] <;> rfl) (Name_c _ _ hts) ?_
        rintro _ _ ⟨rfl, rfl⟩
        refine ⟨_, rfl, ?_⟩
        rw [hn2']
        refine LW.want rfl rfl hg16_3 ?_
        refine r_move rfl ?_
        refine LW.want rfl rfl hg16_3 ?_
        refine r_eqlB rfl Try.underlying4 rfl rfl ?_
        refine r_pickT rfl rfl hg16_3 ?_
        refine r_move rfl ?_
        refine LW.known (t := 94) (c := true) rfl (by simp) (fun hg16_9 => ?_)
        refine LW.want rfl rfl hg16_9 ?_
        refine r_move rfl ?_
        refine LW.want rfl rfl hg16_9 ?_
        refine r_addS rfl rfl rfl (by rw [show (ByteArray.mk #[120]).size = 1 from rfl]; omega) ?_
        refine LW.want rfl rfl hg16_9 ?_
        refine r_call rfl Try.call38 (by simp only [List.map_cons, List.map_nil, List.map_toArray, List.toList_toArray, upd_get, ev, Nat.reduceEqDiff, ↓reduceIte] <;> rfl) (Name_c _ _ (by rw [ba_plus, show (ByteArray.mk #[120]).size = 1 from rfl]; omega)) ?_
        rintro _ _ ⟨rfl, rfl⟩
        refine ⟨_, rfl, ?_⟩
        rw [hn3']
        refine LW.want rfl rfl hg16_9 ?_
        refine r_move rfl ?_
        refine LW.want rfl rfl hg16_9 ?_
        refine r_lenS rfl Try.underlying9 rfl ?_
        refine LW.want rfl rfl hg16_9 ?_
        refine r_lss rfl rfl rfl ?_
        refine LW.want rfl rfl hg16_9 ?_
        refine r_eqlB rfl Try.underlying4 rfl rfl ?_
        refine r_pickT rfl rfl hg16_9 ?_
        refine r_move rfl ?_
        refine LW.known (t := 103) (c := true) rfl (by rw [hss]; simp; omega) (fun hg16_18 => ?_)
        refine LW.want rfl rfl hg16_18 ?_
        refine r_call rfl Try.call31 (by simp only [List.map_cons, List.map_nil, List.map_toArray, List.toList_toArray, upd_get, ev, Nat.reduceEqDiff, ↓reduceIte] <;> rfl) (awake4_c _) ?_
        rintro _ wa ⟨rfl, X⟩
        refine ⟨_, rfl, ?_⟩
        replace H := SH.same H X
        clear X
        refine r_pickT rfl rfl hg16_18 ?_
        refine r_assign rfl ?_
        refine LW.nil ?_
        refine thenE_norm ?_
        refine cut (K := K20) [6] (fun σ => ?_)
        simp only [setL, keepE, upd_get, ev, Nat.reduceEqDiff, ↓reduceIte]
        refine h20 _ _ ?_; clear h20; try clear K20
        refine CW.ret (ret1 Try.results10 (by simp only [upd_get, ev, Nat.reduceEqDiff, ↓reduceIte]; rfl) ?_)
        exact ⟨rfl, H.ext⟩
end Go.Proofs.Ytgcmafgcigipdaa
