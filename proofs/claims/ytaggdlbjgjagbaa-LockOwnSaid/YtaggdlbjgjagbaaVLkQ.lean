/-
  The walks of layer 8's functions: locks whose lines one may write.
-/
import Derived.Test.YtaggdlbjgjagbaaVLkB
namespace Go.Proofs.Ytaggdlbjgjagbaa
set_option linter.unusedSimpArgs false
set_option linter.unusedVariables false
set_option maxRecDepth 20000
open Go.V Go.RowKit Go.ChangeShapes Go.WideShapes

/-- A slice of numbers whose array one may write. -/
def WI (F : Nat → Prop) (w : World) (v : Value) : Prop := ∃ ao n cap, v = .slice ao n cap ∧ n ≤ cap ∧ cap ≤ maxLen ∧ (n = 0 ∨ ∃ b o E cur, ao = some ⟨b, o, none⟩ ∧ F b ∧ Blk w b E cur ∧ o + n ≤ cur.length)
theorem WI.up {F V : Nat → Prop} {w w' : World} {v : Value} (h : WI F w v) (e : Ext V w w') (hd : ∀ b, F b → ¬ V b) : WI F w' v := by
  obtain ⟨ao, n, cap, h1, h2, h3, h4⟩ := h
  refine ⟨ao, n, cap, h1, h2, h3, h4.imp_right ?_⟩
  rintro ⟨b, o, E, cur, q1, q2, q3, q4⟩
  exact ⟨b, o, E, cur, q1, q2, q3.up e (hd b q2), q4⟩
theorem WI.mono {F K : Nat → Prop} {w : World} {v : Value} (h : WI F w v) (hK : ∀ b, F b → K b) : WI K w v := by
  obtain ⟨ao, n, cap, h1, h2, h3, h4⟩ := h
  refine ⟨ao, n, cap, h1, h2, h3, h4.imp_right ?_⟩
  rintro ⟨b, o, E, cur, q1, q2, q3, q4⟩
  exact ⟨b, o, E, cur, q1, hK b q2, q3, q4⟩
theorem WI.nil {F : Nat → Prop} {w : World} : WI F w (.slice none 0 0) := ⟨none, 0, 0, rfl, Nat.le_refl _, Nat.zero_le _, .inl rfl⟩
theorem WI.set {F : Nat → Prop} {w w' : World} {v u : Value} {b i : Nat} {E : TypeId} {cur : List Value} (h : WI F w v) (hb : Blk w b E cur) (e : Ext (fun k => k = b) w w') (hb' : Blk w' b E (cur.set i u)) : WI F w' v := by
  obtain ⟨ao, n, cap, h1, h2, h3, h4⟩ := h
  refine ⟨ao, n, cap, h1, h2, h3, h4.imp_right ?_⟩
  rintro ⟨b', o, E', cur', q1, q2, q3, q4⟩
  by_cases hbb : b' = b
  · subst hbb
    have hc : cur' = cur := by
      unfold Blk at q3 hb
      rw [hb] at q3
      cases q3
      simp
    subst hc
    exact ⟨b', o, E, _, q1, q2, hb', by rw [List.length_set]; exact q4⟩
  · exact ⟨b', o, E', cur', q1, q2, q3.up e hbb, q4⟩
theorem Ow.wi {E : TypeId} {w : World} {v : Value} {xs : List Int} {g : Option Nat} (h : Ow E w v xs g) : WI (fun b => g = some b) w v := by
  obtain ⟨⟨hl, h⟩, ho⟩ := h
  rcases h with ⟨rfl, rfl, hn⟩ | ⟨b, cap, cur, rfl, rfl, h3, h4, h5, h6, h7⟩
  · exact WI.nil
  · exact ⟨some ⟨b, 0, none⟩, xs.length, cap, rfl, h4, h5, .inr ⟨b, 0, E, cur.toList, rfl, rfl, by unfold Blk; rw [h3], by
      have h8 : cur.toList.length = cap * Row.sz Int := by simpa using h6
      have h9 : cap * Row.sz Int = cap := Nat.mul_one _
      omega⟩⟩
def LksW (F : Nat → Prop) (raws : List Lk) (w : World) : Prop := ∀ r ∈ raws, WI F w r.line
theorem lksw_st {F : Nat → Prop} {raws : List Lk} : Ch.St F (LksW F raws) := fun V w w' h e hd r hr => (h r hr).up e hd
def LksB (F : Nat → Prop) (raws : List Lk) (ms : List Lm) (w : World) : Prop := LksA F raws ms w ∧ LksW F raws w
theorem lksb_st {F : Nat → Prop} {raws : List Lk} {ms : List Lm} : Ch.St F (LksB F raws ms) := fun V w w' h e hd => ⟨lks_st V w w' h.1 e hd, lksw_st V w w' h.2 e hd⟩
theorem addLb {U G : Nat → Prop} {w0 w : World} {L : List Ch} (H : SH U G w0 w L) : SH U G w0 w (L ++ [.P Non (LksB Non [] [])]) :=
  H.call ⟨Ext.refl _ _, Val.one ⟨⟨trivial, fun r hr => by cases hr⟩, lksb_st, fun b h => h.elim, fun _ b h => h.elim, fun b h => h.elim⟩⟩
theorem LksB.snoc {F K : Nat → Prop} {raws : List Lk} {ms : List Lm} {w : World} {r : Lk} {m : Lm} (h : LksB F raws ms w) (hK : ∀ b, F b → K b) (hr : LkR K w r m) (hw : WI K w r.line) : LksB K (raws ++ [r]) (ms ++ [m]) w :=
  ⟨All2.snoc (LksA.mono h.1 hK) hr, fun x hx => by
    rcases List.mem_append.1 hx with hx | hx
    · exact (h.2 x hx).mono hK
    · rw [List.mem_singleton] at hx; subst hx; exact hw⟩
theorem LksB.put {F K : Nat → Prop} {raws : List Lk} {ms : List Lm} {w : World} {r : Lk} {m : Lm} (h : LksB F raws ms w) (hK : ∀ b, F b → K b) (hr : LkR K w r m) (hw : WI K w r.line) : LksB K (putT Lk.name raws r) (putT Lm.name ms m) w :=
  ⟨all2_putT lkr_key (LksA.mono h.1 hK) hr, fun x hx => by
    rcases putT_mem hx with rfl | ⟨hx, _⟩
    · exact hw
    · exact (h.2 x hx).mono hK⟩
set_option maxHeartbeats 4000000 in
theorem copiedW_c {F K : Nat → Prop} {v : Value} {raws : List Lk} {ms : List Lm} (w : World) (hv : Rs F w v raws) (hm : LksA K raws ms w) (hn : raws.length ≤ 1000000) (hs : shortL ms) :
    Calls Try.prog 58 #[v] w fun e w' => ∃ (v' : Value) (raws' : List Lk) (g : Option Nat) (F' : Nat → Prop), e = .returned v' ∧ SH Non Non w w' [.O 53 v' raws' g, .P F' (LksB F' raws' ms)] := by
  have H := (SH.start w).arg hv
  have l1 := All2.len hm
  refine calls_of_CW Try.func58 rfl Try.ntmps58 (Nat.le_of_ble_eq_true rfl) ?_
  simp only [argE, argFrom, Nat.reduceAdd]
  refine CW.seq (fun K1 h1 => ?_)
  refine CW.region ?_
  refine r_assign rfl ?_
  refine LW.nil ?_
  refine thenE_norm (h1 _ _ ?_); clear h1; try clear K1
  refine CW.seq (fun K2 h2 => ?_)
  refine CW.region ?_
  refine r_move rfl ?_
  refine r_call rfl Try.call71 (by simp only [List.map_cons, List.map_nil, List.map_toArray, List.toList_toArray, upd_get, ev, Nat.reduceEqDiff, ↓reduceIte] <;> rfl) (CloneK_c _ (by first | assumption | exact SH.rsR H (by (repeat first | exact At.here | apply At.there); done) | exact SH.rsO H (by (repeat first | exact At.here | apply At.there); done) | exact (Rs.nil : Rs Non _ _ _)) (by first | omega | (simp only [List.length_append, List.length_cons, List.length_nil]; omega) | (simp; omega))) ?_
  rintro _ w1_1 ⟨v1_1, g1_1, rfl, K⟩
  refine ⟨_, rfl, ?_⟩
  replace H := SH.call H K
  clear K
  try dsimp only [replC, List.cons_append, List.nil_append, List.append_nil] at H
  refine r_assign rfl ?_
  refine LW.nil ?_
  refine thenE_norm (h2 _ _ ?_); clear h2; try clear K2
  refine CW.seq (fun K3 h3 => ?_)
  refine CW.seq (fun K4 h4 => ?_)
  refine CW.region ?_
  refine r_move rfl ?_
  first
    | refine r_lenV rfl Try.underlying48 (by simp only [upd_get, ev, Nat.reduceEqDiff, ↓reduceIte] <;> rfl) (by first | assumption | exact SH.rsR H (by (repeat first | exact At.here | apply At.there); done) | exact SH.rsO H (by (repeat first | exact At.here | apply At.there); done) | exact (Rs.nil : Rs Non _ _ _)) ?_
    | refine r_len rfl Try.underlying48 rfl ?_
  refine r_move rfl ?_
  refine LW.nil ?_
  refine thenE_norm (h4 _ _ ?_); clear h4; try clear K4
  refine CW.block ?_
  refine CW.loopR [3, 8] [9] (fun m vs w' => ∃ (i : Nat) (F1 : Nat → Prop) (raws1 : List Lk), vs = [.int .i64 i] ∧ i ≤ raws.length ∧ m = raws.length - i ∧ raws1.length = raws.length ∧ (∀ j, i ≤ j → raws1[j]? = raws[j]?) ∧ SH Non Any w w' [.R (Old w) v raws, .O 53 v1_1 raws1 g1_1, .P F1 (LksB F1 (raws1.take i) (ms.take i))]) (raws.length) ?_ ?_
  · exact ⟨0, _, _, rfl, by omega, by omega, rfl, fun _ _ => rfl, by rw [List.take_zero, List.take_zero]; exact addLb H⟩
  try clear H
  rintro n1 vs1 wL1 σ ⟨i, F1, raws1, rfl, hi, rfl, hrl, hrs, H⟩
  simp only [setL, keepE, upd_get, ev, Nat.reduceEqDiff, ↓reduceIte]
  refine CW.seq (fun K5 h5 => ?_)
  refine CW.region ?_
  refine r_lss rfl rfl rfl ?_
  refine LW.nil ?_
  refine thenE_norm (h5 _ _ ?_); clear h5; try clear K5
  refine CW.seq (fun K6 h6 => ?_)
  refine CW.cond rfl (fun hc1 => ?_) (fun hc1 => ?_)
  · try simp only [decide_eq_true_eq, decide_eq_false_iff_not, Bool.and_eq_true, Bool.or_eq_true, Bool.and_eq_false_iff, Bool.or_eq_false_iff, Bool.not_eq_true', Bool.not_eq_false', beq_iff_eq, bne_iff_ne, ne_eq, Decidable.not_not] at hc1
    refine CW.skip ?_
    refine thenE_norm (h6 _ _ ?_); clear h6; try clear K6
    refine CW.seq (fun K7 h7 => ?_)
    refine CW.block ?_
    refine CW.seq (fun K8 h8 => ?_)
    obtain ⟨x, hx⟩ := get_of_lt (show i < raws1.length by omega)
    have hx0 := hx
    rw [hrs i (Nat.le_refl _)] at hx0
    obtain ⟨m, hmx, hrx⟩ := All2.get hm hx0
    have hml := hs m (List.mem_of_getElem? hmx)
    obtain ⟨x1, x2, x3, x4⟩ := x
    have hgs : Rs K w x4 m.line := hrx.2.2.2
    refine CW.region ?_
    refine r_move rfl ?_
    refine r_assign rfl ?_
    refine LW.nil ?_
    refine thenE_norm (h8 _ _ ?_); clear h8; try clear K8
    refine CW.region ?_
    refine r_move rfl ?_
    refine r_move rfl ?_
    refine r_move rfl ?_
    refine r_move rfl ?_
    refine r_indexAddrV rfl Try.underlying48 (by simp only [upd_get, ev, Nat.reduceEqDiff, ↓reduceIte] <;> rfl) rfl (by first | assumption | exact SH.rsR H (by (repeat first | exact At.here | apply At.there); done) | exact SH.rsO H (by (repeat first | exact At.here | apply At.there); done) | exact (Rs.nil : Rs Non _ _ _)) (by exact Try.sizeOf53) (by omega) (by omega) ?_
    refine r_fieldAddrO rfl Try.underlying53 rfl Try.sizeOf22 (by decide) (show _ + 3 = _ from rfl) rfl ?_
    refine r_load rfl Try.isAgg22 rfl (by first | exact Rs.cell (o := 3) (by first | assumption | exact SH.rsR H (by (repeat first | exact At.here | apply At.there); done) | exact SH.rsO H (by (repeat first | exact At.here | apply At.there); done) | exact (Rs.nil : Rs Non _ _ _)) (by assumption) (by rfl) | exact Rs.cell0 (by first | assumption | exact SH.rsR H (by (repeat first | exact At.here | apply At.there); done) | exact SH.rsO H (by (repeat first | exact At.here | apply At.there); done) | exact (Rs.nil : Rs Non _ _ _)) (by assumption) (by rfl) | assumption) ?_
    refine r_call rfl Try.call51 (by simp only [List.map_cons, List.map_nil, List.map_toArray, List.toList_toArray, upd_get, ev, Nat.reduceEqDiff, ↓reduceIte] <;> rfl) (Clone_c _ (hgs.up0 (SH.ext H)) (by omega)) ?_
    rintro _ w5_7 ⟨v5_7, g5_7, rfl, K⟩
    refine ⟨_, rfl, ?_⟩
    replace H := SH.call H K
    clear K
    try dsimp only [replC, List.cons_append, List.nil_append, List.append_nil] at H
    refine r_indexAddrV rfl Try.underlying48 (by simp only [upd_get, ev, Nat.reduceEqDiff, ↓reduceIte] <;> rfl) rfl (by first | assumption | exact SH.rsR H (by (repeat first | exact At.here | apply At.there); done) | exact SH.rsO H (by (repeat first | exact At.here | apply At.there); done) | exact (Rs.nil : Rs Non _ _ _)) (by exact Try.sizeOf53) (by omega) (by omega) ?_
    refine r_fieldAddrO rfl Try.underlying53 rfl Try.sizeOf22 (by decide) (show _ + 3 = _ from rfl) rfl ?_
    refine s_storeR (o := 3) (x1 := (⟨x1, x2, x3, v5_7⟩ : Lk)) H Try.sizeOf22 rfl (by simp only [upd_get, ev, Nat.reduceEqDiff, ↓reduceIte] <;> rfl) (by first | rfl | assumption | exact Rs.oneC (by first | assumption | exact SH.rsR H (by (repeat first | exact At.here | apply At.there); done) | exact SH.rsO H (by (repeat first | exact At.here | apply At.there); done) | exact (Rs.nil : Rs Non _ _ _)) | (simp only [List.all_cons, List.all_nil, Bool.and_true, Bool.and_eq_true, Row.cells, Gr.L, Lk.L]; (repeat' constructor) <;> first | rfl | assumption | exact Rs.oneC (by first | assumption | exact SH.rsR H (by (repeat first | exact At.here | apply At.there); done) | exact SH.rsO H (by (repeat first | exact At.here | apply At.there); done) | exact (Rs.nil : Rs Non _ _ _)))) (by (repeat first | exact At.here | apply At.there); done) (by assumption) (by rfl) (by rfl) (by rfl) (by first | rfl | assumption | exact Rs.oneC (by first | assumption | exact SH.rsR H (by (repeat first | exact At.here | apply At.there); done) | exact SH.rsO H (by (repeat first | exact At.here | apply At.there); done) | exact (Rs.nil : Rs Non _ _ _)) | (simp only [List.all_cons, List.all_nil, Bool.and_true, Bool.and_eq_true, Row.cells, Gr.L, Lk.L]; (repeat' constructor) <;> first | rfl | assumption | exact Rs.oneC (by first | assumption | exact SH.rsR H (by (repeat first | exact At.here | apply At.there); done) | exact SH.rsO H (by (repeat first | exact At.here | apply At.there); done) | exact (Rs.nil : Rs Non _ _ _)))) ?_
    clear H
    intro w5_10 H
    try dsimp only [replC, List.cons_append, List.nil_append, List.append_nil, agg, cellsL, Value.cells, List.toList_toArray, List.set_cons_zero, List.set_cons_succ, spliceL, List.take_succ_cons, List.take_zero, List.drop_succ_cons, List.drop_zero, List.length_cons, List.length_nil, Nat.reduceAdd, Row.cells, Gr.L, Lk.L] at H
    refine LW.nil ?_
    refine blockE_norm ?_
    refine thenE_norm (h7 _ _ ?_); clear h7; try clear K7
    refine CW.region ?_
    refine r_add rfl rfl rfl (wr_i64 (by omega) (by omega)) ?_
    refine r_move rfl ?_
    refine LW.nil ?_
    refine thenE_norm ⟨rfl, ?_⟩
    have ht : (raws1.set i (⟨x1, x2, x3, v5_7⟩ : Lk)).take i = raws1.take i := by rw [List.take_set_of_le (Nat.le_refl _)]
    have hx1 : (raws1.set i (⟨x1, x2, x3, v5_7⟩ : Lk))[i]? = some ⟨x1, x2, x3, v5_7⟩ := List.getElem?_set_self (by omega)
    have H2 := SH.absorb (A' := LksB _ ((raws1.set i (⟨x1, x2, x3, v5_7⟩ : Lk)).take (i + 1)) (ms.take (i + 1))) (SH.sel H [2, 3, 0, 1] (by decide) rfl) trivial lksb_st (fun h k => by
      rw [V.take_snoc hx1, V.take_snoc hmx, ht]
      exact LksB.snoc h (fun b hb => .inl hb) ⟨hrx.1, hrx.2.1, hrx.2.2.1, (Ow.rs k).mono fun b _ hb => .inr hb⟩ ((Ow.wi k).mono fun b hb => .inr hb))
    exact ⟨raws.length - (i + 1), by omega, i + 1, _, _, rfl, by omega, rfl, by rw [List.length_set]; exact hrl, fun j hj => by rw [List.getElem?_set, if_neg (by omega)]; exact hrs j (by omega), SH.sel H2 [1, 2, 0] (by decide) rfl⟩
  · try simp only [decide_eq_true_eq, decide_eq_false_iff_not, Bool.and_eq_true, Bool.or_eq_true, Bool.and_eq_false_iff, Bool.or_eq_false_iff, Bool.not_eq_true', Bool.not_eq_false', beq_iff_eq, bne_iff_ne, ne_eq, Decidable.not_not] at hc1
    refine CW.exit (thenE_exit (thenE_exit (blockE_hit ?_)))
    refine thenE_norm (h3 _ _ ?_); clear h3; try clear K3
    refine CW.seq (fun K9 h9 => ?_)
    refine CW.region ?_
    refine r_move rfl ?_
    refine r_assign rfl ?_
    refine LW.nil ?_
    refine thenE_norm (h9 _ _ ?_); clear h9; try clear K9
    refine CW.ret (ret1 Try.results58 (by simp only [upd_get, ev, Nat.reduceEqDiff, ↓reduceIte]; rfl) ?_)
    obtain rfl : i = raws.length := by omega
    rw [List.take_of_length_le (by omega), List.take_of_length_le (by omega)] at H
    exact ⟨_, _, _, _, rfl, SH.give H (by repeat first | exact List.Sublist.refl _ | exact List.nil_sublist _ | apply List.Sublist.cons_cons | apply List.Sublist.cons) ⟨trivial, trivial, trivial⟩⟩
set_option maxHeartbeats 16000000 in
theorem TakeW_c {F K : Nat → Prop} {v : Value} {raws : List Lk} {ms : List Lm} (n : ByteArray) (c tok : Int) (wait : Bool) (w : World) (hv : Rs F w v raws) (hm : LksA K raws ms w) (hn : raws.length ≤ 1000) (hs : shortL ms) (hup : UpT Lm.name ms) (t0 : 0 ≤ tok) (t1 : tok ≤ 1000000) :
    Calls Try.prog 32 #[v, .string n, .int .i64 c, .int .i64 tok, .bool wait] w fun e w' => ∃ (v' : Value) (raws' : List Lk) (g : Option Nat) (F' : Nat → Prop), e = .returned (.tuple #[v', .int .i64 (takeM ms n c tok wait).2.1, .int .i64 (takeM ms n c tok wait).2.2]) ∧
      SH Non Non w w' [.O 53 v' raws' g, .P F' (LksB F' raws' (takeM ms n c tok wait).1)] := by
  have H := (SH.start w).arg hv
  have hupr := all2_upT lkr_key hm hup
  have l1 := All2.len hm
  have hat := atT_le Lk.name raws n
  refine calls_of_CW Try.func32 rfl Try.ntmps32 (Nat.le_of_ble_eq_true rfl) ?_
  simp only [argE, argFrom, Nat.reduceAdd]
  refine CW.seq (fun K1 h1 => ?_)
  refine CW.region ?_
  refine r_assign rfl ?_
  refine r_assign rfl ?_
  refine r_assign rfl ?_
  refine LW.nil ?_
  refine thenE_norm (h1 _ _ ?_); clear h1; try clear K1
  refine CW.seq (fun K2 h2 => ?_)
  refine CW.region ?_
  refine r_move rfl ?_
  refine r_move rfl ?_
  refine r_call rfl Try.call56 (by simp only [List.map_cons, List.map_nil, List.map_toArray, List.toList_toArray, upd_get, ev, Nat.reduceEqDiff, ↓reduceIte] <;> rfl) (placeK_c n _ (SH.rsR H (i := 0) rfl) (by omega) hupr) ?_
  rintro _ w1_2 ⟨rfl, X⟩
  refine ⟨_, rfl, ?_⟩
  replace H := SH.same H X
  clear X
  refine r_move rfl ?_
  refine r_extract rfl (by simp only [upd_get, ev, Nat.reduceEqDiff, ↓reduceIte] <;> rfl) (by simp only [List.getElem?_toArray, List.getElem?_cons_zero, List.getElem?_cons_succ] <;> rfl) ?_
  refine r_extract rfl (by simp only [upd_get, ev, Nat.reduceEqDiff, ↓reduceIte] <;> rfl) (by simp only [List.getElem?_toArray, List.getElem?_cons_zero, List.getElem?_cons_succ] <;> rfl) ?_
  refine r_assign rfl ?_
  refine r_assign rfl ?_
  refine LW.nil ?_
  refine thenE_norm ?_
  refine cut (K := K2) [0, 1, 2, 3, 4, 13, 14] (fun σ => ?_)
  simp only [setL, keepE, upd_get, ev, Nat.reduceEqDiff, ↓reduceIte]
  refine h2 _ _ ?_; clear h2; try clear K2
  refine CW.seq (fun K3 h3 => ?_)
  refine CW.block ?_
  refine CW.seq (fun K4 h4 => ?_)
  rcases findT_place hupr n with ⟨hin, s, hs0, hc, hf⟩ | ⟨hin, hf, hno⟩
  · rw [hin]
    have hsl := lt_of_get hs0
    obtain ⟨m, hmi, hmn, hmf, hrm⟩ := raw_at hm hup hs0 hc
    have hml := hs m (List.mem_of_getElem? hmi)
    obtain ⟨s1, s2, s3, s4⟩ := s
    obtain ⟨m1, m2, m3, m4⟩ := m
    obtain ⟨e1, e2, e3, e4⟩ := hrm
    dsimp only at e1 e2 e3 e4 hc hmn hml
    subst e2 e3
    replace hmn := hmn.symm
    subst hmn
    replace e1 := e1.symm
    subst e1
    refine CW.region ?_
    refine r_move rfl ?_
    refine r_not rfl rfl ?_
    refine r_move rfl ?_
    refine' LW.grpAnd (n := 4) (ts := [0, 1, 2, 3, 4, 13, 14]) (d := 34) (tj := 30) rfl (fun hg2_3 => ?_) (fun hg2_3 => ?_) (fun σ => ?_)
    rotate_left
    · simp only [List.take_succ_cons, List.take_zero]
      have hg2_3P := hg2_3
      try simp only [decide_eq_true_eq, decide_eq_false_iff_not, Bool.and_eq_true, Bool.or_eq_true, Bool.and_eq_false_iff, Bool.or_eq_false_iff, Bool.not_eq_true', Bool.not_eq_false', beq_iff_eq, bne_iff_ne] at hg2_3P
      refine LW.want rfl rfl hg2_3 ?_
      refine r_move rfl ?_
      refine LW.want rfl rfl hg2_3 ?_
      first
        | refine r_lenV rfl Try.underlying48 (by simp only [upd_get, ev, Nat.reduceEqDiff, ↓reduceIte] <;> rfl) (by first | assumption | exact SH.rsR H (by (repeat first | exact At.here | apply At.there); done) | exact SH.rsO H (by (repeat first | exact At.here | apply At.there); done) | exact (Rs.nil : Rs Non _ _ _)) ?_
        | refine r_len rfl Try.underlying48 rfl ?_
      refine LW.want rfl rfl hg2_3 ?_
      refine r_geq rfl rfl rfl ?_
      refine r_pickT rfl rfl hg2_3 ?_
      refine LW.nil (thenE_norm ⟨rfl, rfl, rfl⟩)
    · simp only [List.take_succ_cons, List.take_zero]
      refine LW.skip rfl (fun _ e => by cases e; decide) rfl hg2_3 ?_
      refine LW.skip rfl (fun _ e => by cases e; decide) rfl hg2_3 ?_
      refine LW.skip rfl (fun _ e => by cases e; decide) rfl hg2_3 ?_
      refine r_pickF rfl rfl hg2_3 ?_
      refine LW.nil (thenE_norm ⟨rfl, rfl, rfl⟩)
    simp only [setL, keepE, upd_get, ev, Nat.reduceEqDiff, ↓reduceIte]; simp only [List.drop_succ_cons, List.drop_zero]
    refine r_assign rfl ?_
    refine LW.nil ?_
    refine thenE_norm (h4 _ _ ?_); clear h4; try clear K4
    refine CW.condF rfl (by simp) ?_
    refine CW.seq (fun K5 h5 => ?_)
    refine CW.region ?_
    refine r_move rfl ?_
    refine r_not rfl rfl ?_
    refine r_assign rfl ?_
    refine LW.nil ?_
    refine thenE_norm (h5 _ _ ?_); clear h5; try clear K5
    refine CW.condF rfl (by first | rfl | (simp only [decide_eq_true_eq, decide_eq_false_iff_not, Bool.and_eq_true, Bool.or_eq_true, Bool.and_eq_false_iff, Bool.or_eq_false_iff, Bool.not_eq_true', Bool.not_eq_false', beq_iff_eq, bne_iff_ne]; omega) | simp_all) ?_
    refine CW.seq (fun K6 h6 => ?_)
    refine CW.region ?_
    refine r_move rfl ?_
    refine r_move rfl ?_
    refine r_indexAddrV rfl Try.underlying48 (by simp only [upd_get, ev, Nat.reduceEqDiff, ↓reduceIte] <;> rfl) rfl (by first | assumption | exact SH.rsR H (by (repeat first | exact At.here | apply At.there); done) | exact SH.rsO H (by (repeat first | exact At.here | apply At.there); done) | exact (Rs.nil : Rs Non _ _ _)) (by exact Try.sizeOf53) (by omega) (by omega) ?_
    refine r_fieldAddrO rfl Try.underlying53 rfl Try.sizeOf3 (by decide) (show _ + 1 = _ from rfl) rfl ?_
    refine r_load rfl Try.isAgg3 rfl (by first | exact Rs.cell (o := 1) (by first | assumption | exact SH.rsR H (by (repeat first | exact At.here | apply At.there); done) | exact SH.rsO H (by (repeat first | exact At.here | apply At.there); done) | exact (Rs.nil : Rs Non _ _ _)) (by assumption) (by rfl) | exact Rs.cell0 (by first | assumption | exact SH.rsR H (by (repeat first | exact At.here | apply At.there); done) | exact SH.rsO H (by (repeat first | exact At.here | apply At.there); done) | exact (Rs.nil : Rs Non _ _ _)) (by assumption) (by rfl) | assumption) ?_
    refine r_move rfl ?_
    refine r_eql rfl rfl rfl ?_
    refine r_assign rfl ?_
    refine LW.nil ?_
    refine thenE_norm ?_
    refine cut (K := K6) [0, 2, 4, 13, 48] (fun σ => ?_)
    simp only [setL, keepE, upd_get, ev, Nat.reduceEqDiff, ↓reduceIte]
    refine h6 _ _ ?_; clear h6; try clear K6
    refine CW.cond rfl (fun hc3 => ?_) (fun hc3 => ?_)
    · try simp only [decide_eq_true_eq, decide_eq_false_iff_not, Bool.and_eq_true, Bool.or_eq_true, Bool.and_eq_false_iff, Bool.or_eq_false_iff, Bool.not_eq_true', Bool.not_eq_false', beq_iff_eq, bne_iff_ne, ne_eq, Decidable.not_not] at hc3
      refine CW.seq (fun K7 h7 => ?_)
      refine CW.region ?_
      refine r_assign rfl ?_
      refine r_assign rfl ?_
      refine r_assign rfl ?_
      refine LW.nil ?_
      refine thenE_norm (h7 _ _ ?_); clear h7; try clear K7
      refine CW.ret (blockE_ret (thenE_ret (ret3 Try.results32 (by simp only [upd_get, ev, Nat.reduceEqDiff, ↓reduceIte]; rfl) (by simp only [upd_get, ev, Nat.reduceEqDiff, ↓reduceIte]; rfl) (by simp only [upd_get, ev, Nat.reduceEqDiff, ↓reduceIte]; rfl) ?_)))
      rw [take_twice hmf hc3]
      exact ⟨_, _, _, _, rfl, SH.give (addLb (SH.sel (H.addO (α := Lk) 53) [1] (by decide) rfl)) (List.Sublist.refl _) ⟨trivial, trivial, trivial⟩⟩
    · try simp only [decide_eq_true_eq, decide_eq_false_iff_not, Bool.and_eq_true, Bool.or_eq_true, Bool.and_eq_false_iff, Bool.or_eq_false_iff, Bool.not_eq_true', Bool.not_eq_false', beq_iff_eq, bne_iff_ne, ne_eq, Decidable.not_not] at hc3
      refine CW.seq (fun K8 h8 => ?_)
      refine CW.region ?_
      refine r_move rfl ?_
      refine r_not rfl rfl ?_
      refine r_assign rfl ?_
      refine LW.nil ?_
      refine thenE_norm (h8 _ _ ?_); clear h8; try clear K8
      refine CW.cond rfl (fun hc4 => ?_) (fun hc4 => ?_)
      · try simp only [decide_eq_true_eq, decide_eq_false_iff_not, Bool.and_eq_true, Bool.or_eq_true, Bool.and_eq_false_iff, Bool.or_eq_false_iff, Bool.not_eq_true', Bool.not_eq_false', beq_iff_eq, bne_iff_ne, ne_eq, Decidable.not_not] at hc4
        refine CW.seq (fun K9 h9 => ?_)
        refine CW.region ?_
        refine r_assign rfl ?_
        refine r_assign rfl ?_
        refine r_assign rfl ?_
        refine LW.nil ?_
        refine thenE_norm (h9 _ _ ?_); clear h9; try clear K9
        refine CW.ret (blockE_ret (thenE_ret (ret3 Try.results32 (by simp only [upd_get, ev, Nat.reduceEqDiff, ↓reduceIte]; rfl) (by simp only [upd_get, ev, Nat.reduceEqDiff, ↓reduceIte]; rfl) (by simp only [upd_get, ev, Nat.reduceEqDiff, ↓reduceIte]; rfl) ?_)))
        rw [take_busy hmf hc3 hc4]
        exact ⟨_, _, _, _, rfl, SH.give (addLb (SH.sel (H.addO (α := Lk) 53) [1] (by decide) rfl)) (List.Sublist.refl _) ⟨trivial, trivial, trivial⟩⟩
      · try simp only [decide_eq_true_eq, decide_eq_false_iff_not, Bool.and_eq_true, Bool.or_eq_true, Bool.and_eq_false_iff, Bool.or_eq_false_iff, Bool.not_eq_true', Bool.not_eq_false', beq_iff_eq, bne_iff_ne, ne_eq, Decidable.not_not] at hc4
        refine CW.skip ?_
        refine blockE_norm ?_
        refine thenE_norm (h3 _ _ ?_); clear h3; try clear K3
        refine CW.seq (fun K10 h10 => ?_)
        refine CW.seq (fun K11 h11 => ?_)
        have hw : ¬ wait = false := by rw [hc4]; decide
        refine CW.region ?_
        refine r_move rfl ?_
        refine r_move rfl ?_
        refine r_indexAddrV rfl Try.underlying48 (by simp only [upd_get, ev, Nat.reduceEqDiff, ↓reduceIte] <;> rfl) rfl (by first | assumption | exact SH.rsR H (by (repeat first | exact At.here | apply At.there); done) | exact SH.rsO H (by (repeat first | exact At.here | apply At.there); done) | exact (Rs.nil : Rs Non _ _ _)) (by exact Try.sizeOf53) (by omega) (by omega) ?_
        refine r_fieldAddrO rfl Try.underlying53 rfl Try.sizeOf22 (by decide) (show _ + 3 = _ from rfl) rfl ?_
        refine r_load rfl Try.isAgg22 rfl (by first | exact Rs.cell (o := 3) (by first | assumption | exact SH.rsR H (by (repeat first | exact At.here | apply At.there); done) | exact SH.rsO H (by (repeat first | exact At.here | apply At.there); done) | exact (Rs.nil : Rs Non _ _ _)) (by assumption) (by rfl) | exact Rs.cell0 (by first | assumption | exact SH.rsR H (by (repeat first | exact At.here | apply At.there); done) | exact SH.rsO H (by (repeat first | exact At.here | apply At.there); done) | exact (Rs.nil : Rs Non _ _ _)) (by assumption) (by rfl) | assumption) ?_
        refine r_move rfl ?_
        refine r_call rfl Try.call18 (by simp only [List.map_cons, List.map_nil, List.map_toArray, List.toList_toArray, upd_get, ev, Nat.reduceEqDiff, ↓reduceIte] <;> rfl) (Ahead_c c _ (e4.up0 (SH.ext H))) ?_
        rintro _ _ ⟨rfl, rfl⟩
        refine ⟨_, rfl, ?_⟩
        refine r_move rfl ?_
        refine r_extract rfl (by simp only [upd_get, ev, Nat.reduceEqDiff, ↓reduceIte] <;> rfl) (by simp only [List.getElem?_toArray, List.getElem?_cons_zero, List.getElem?_cons_succ] <;> rfl) ?_
        refine r_extract rfl (by simp only [upd_get, ev, Nat.reduceEqDiff, ↓reduceIte] <;> rfl) (by simp only [List.getElem?_toArray, List.getElem?_cons_zero, List.getElem?_cons_succ] <;> rfl) ?_
        refine r_assign rfl ?_
        refine r_assign rfl ?_
        refine LW.nil ?_
        refine thenE_norm ?_
        refine cut (K := K11) [0, 2, 13, 15, 16] (fun σ => ?_)
        simp only [setL, keepE, upd_get, ev, Nat.reduceEqDiff, ↓reduceIte]
        refine h11 _ _ ?_; clear h11; try clear K11
        refine CW.seq (fun K12 h12 => ?_)
        by_cases hin2 : c ∈ m4
        · rw [aheadM, if_pos hin2]
          refine CW.region ?_
          refine r_move rfl ?_
          refine LW.nil ?_
          refine thenE_norm (h12 _ _ ?_); clear h12; try clear K12
          refine CW.condT rfl (by first | rfl | (simp only [decide_eq_true_eq, decide_eq_false_iff_not, Bool.and_eq_true, Bool.or_eq_true, Bool.and_eq_false_iff, Bool.or_eq_false_iff, Bool.not_eq_true', Bool.not_eq_false', beq_iff_eq, bne_iff_ne]; omega) | simp_all) ?_
          refine CW.seq (fun K13 h13 => ?_)
          refine CW.region ?_
          refine r_move rfl ?_
          refine r_call rfl Try.call58 (by simp only [List.map_cons, List.map_nil, List.map_toArray, List.toList_toArray, upd_get, ev, Nat.reduceEqDiff, ↓reduceIte] <;> rfl) (copiedW_c _ (SH.rsR H (i := 0) rfl) (hm.up0 (SH.ext H)) (by omega) hs) ?_
          rintro _ w12_1 ⟨v12_1, raws12_1, g12_1, F12_1, rfl, K⟩
          refine ⟨_, rfl, ?_⟩
          replace H := SH.call H K
          clear K
          try dsimp only [replC, List.cons_append, List.nil_append, List.append_nil] at H
          refine r_move rfl ?_
          refine r_assign rfl ?_
          refine r_assign rfl ?_
          refine r_assign rfl ?_
          refine LW.nil ?_
          refine thenE_norm (h13 _ _ ?_); clear h13; try clear K13
          refine CW.ret (thenE_ret (ret3 Try.results32 (by simp only [upd_get, ev, Nat.reduceEqDiff, ↓reduceIte]; rfl) (by simp only [upd_get, ev, Nat.reduceEqDiff, ↓reduceIte]; rfl) (by simp only [upd_get, ev, Nat.reduceEqDiff, ↓reduceIte]; rfl) ?_))
          rw [take_in hmf hc3 hw hin2]
          exact ⟨_, _, _, _, rfl, SH.give (SH.sel H [1, 2] (by decide) rfl) (List.Sublist.refl _) ⟨trivial, trivial, trivial⟩⟩
        · rw [aheadM, if_neg hin2]
          refine CW.region ?_
          refine r_move rfl ?_
          refine LW.nil ?_
          refine thenE_norm (h12 _ _ ?_); clear h12; try clear K12
          refine CW.condF rfl (by first | rfl | (simp only [decide_eq_true_eq, decide_eq_false_iff_not, Bool.and_eq_true, Bool.or_eq_true, Bool.and_eq_false_iff, Bool.or_eq_false_iff, Bool.not_eq_true', Bool.not_eq_false', beq_iff_eq, bne_iff_ne]; omega) | simp_all) ?_
          refine CW.skip ?_
          refine thenE_norm (h10 _ _ ?_); clear h10; try clear K10
          refine CW.seq (fun K14 h14 => ?_)
          refine CW.region ?_
          refine r_move rfl ?_
          refine r_move rfl ?_
          refine r_indexAddrV rfl Try.underlying48 (by simp only [upd_get, ev, Nat.reduceEqDiff, ↓reduceIte] <;> rfl) rfl (by first | assumption | exact SH.rsR H (by (repeat first | exact At.here | apply At.there); done) | exact SH.rsO H (by (repeat first | exact At.here | apply At.there); done) | exact (Rs.nil : Rs Non _ _ _)) (by exact Try.sizeOf53) (by omega) (by omega) ?_
          refine r_fieldAddrO rfl Try.underlying53 rfl Try.sizeOf22 (by decide) (show _ + 3 = _ from rfl) rfl ?_
          refine r_load rfl Try.isAgg22 rfl (by first | exact Rs.cell (o := 3) (by first | assumption | exact SH.rsR H (by (repeat first | exact At.here | apply At.there); done) | exact SH.rsO H (by (repeat first | exact At.here | apply At.there); done) | exact (Rs.nil : Rs Non _ _ _)) (by assumption) (by rfl) | exact Rs.cell0 (by first | assumption | exact SH.rsR H (by (repeat first | exact At.here | apply At.there); done) | exact SH.rsO H (by (repeat first | exact At.here | apply At.there); done) | exact (Rs.nil : Rs Non _ _ _)) (by assumption) (by rfl) | assumption) ?_
          refine r_move rfl ?_
          refine r_call rfl Try.call17 (by simp only [List.map_cons, List.map_nil, List.map_toArray, List.toList_toArray, upd_get, ev, Nat.reduceEqDiff, ↓reduceIte] <;> rfl) (Join_c c _ (e4.up0 (SH.ext H))) ?_
          rintro _ w13_6 ⟨v13_6, g13_6, rfl, K⟩
          refine ⟨_, rfl, ?_⟩
          replace H := SH.call H K
          clear K
          try dsimp only [replC, List.cons_append, List.nil_append, List.append_nil] at H
          refine r_move rfl ?_
          refine r_extract rfl (by simp only [upd_get, ev, Nat.reduceEqDiff, ↓reduceIte] <;> rfl) (by simp only [List.getElem?_toArray, List.getElem?_cons_zero, List.getElem?_cons_succ] <;> rfl) ?_
          refine r_extract rfl (by simp only [upd_get, ev, Nat.reduceEqDiff, ↓reduceIte] <;> rfl) (by simp only [List.getElem?_toArray, List.getElem?_cons_zero, List.getElem?_cons_succ] <;> rfl) ?_
          refine r_extract rfl (by simp only [upd_get, ev, Nat.reduceEqDiff, ↓reduceIte] <;> rfl) (by simp only [List.getElem?_toArray, List.getElem?_cons_zero, List.getElem?_cons_succ] <;> rfl) ?_
          refine r_assign rfl ?_
          refine r_assign rfl ?_
          refine r_assign rfl ?_
          refine LW.nil ?_
          refine thenE_norm ?_
          refine cut (K := K14) [0, 13, 17, 18, 19] (fun σ => ?_)
          simp only [setL, keepE, upd_get, ev, Nat.reduceEqDiff, ↓reduceIte]
          refine h14 _ _ ?_; clear h14; try clear K14
          refine CW.seq (fun K15 h15 => ?_)
          refine CW.seq (fun K16 h16 => ?_)
          refine CW.region ?_
          refine r_move rfl ?_
          refine r_neq rfl rfl rfl ?_
          refine LW.nil ?_
          refine thenE_norm (h16 _ _ ?_); clear h16; try clear K16
          refine CW.cond rfl (fun hc6 => ?_) (fun hc6 => ?_)
          · try simp only [decide_eq_true_eq, decide_eq_false_iff_not, Bool.and_eq_true, Bool.or_eq_true, Bool.and_eq_false_iff, Bool.or_eq_false_iff, Bool.not_eq_true', Bool.not_eq_false', beq_iff_eq, bne_iff_ne, ne_eq, Decidable.not_not] at hc6
            refine CW.seq (fun K17 h17 => ?_)
            refine CW.region ?_
            refine r_move rfl ?_
            refine r_assign rfl ?_
            refine r_assign rfl ?_
            refine r_assign rfl ?_
            refine LW.nil ?_
            refine thenE_norm (h17 _ _ ?_); clear h17; try clear K17
            refine CW.ret (thenE_ret (ret3 Try.results32 (by simp only [upd_get, ev, Nat.reduceEqDiff, ↓reduceIte]; rfl) (by simp only [upd_get, ev, Nat.reduceEqDiff, ↓reduceIte]; rfl) (by simp only [upd_get, ev, Nat.reduceEqDiff, ↓reduceIte]; rfl) ?_))
            rw [take_not hmf hc3 hw hin2 hc6]
            exact ⟨_, _, _, _, rfl, SH.give (addLb (SH.sel (H.addO (α := Lk) 53) [2] (by decide) rfl)) (List.Sublist.refl _) ⟨trivial, trivial, trivial⟩⟩
          · try simp only [decide_eq_true_eq, decide_eq_false_iff_not, Bool.and_eq_true, Bool.or_eq_true, Bool.and_eq_false_iff, Bool.or_eq_false_iff, Bool.not_eq_true', Bool.not_eq_false', beq_iff_eq, bne_iff_ne, ne_eq, Decidable.not_not] at hc6
            refine CW.skip ?_
            refine thenE_norm (h15 _ _ ?_); clear h15; try clear K15
            refine CW.seq (fun K18 h18 => ?_)
            refine CW.region ?_
            refine r_move rfl ?_
            refine r_call rfl Try.call58 (by simp only [List.map_cons, List.map_nil, List.map_toArray, List.toList_toArray, upd_get, ev, Nat.reduceEqDiff, ↓reduceIte] <;> rfl) (copiedW_c _ (SH.rsR H (i := 0) rfl) (hm.up0 (SH.ext H)) (by omega) hs) ?_
            rintro _ w16_1 ⟨v16_1, raws16_1, g16_1, F16_1, rfl, K⟩
            refine ⟨_, rfl, ?_⟩
            replace H := SH.call H K
            clear K
            try dsimp only [replC, List.cons_append, List.nil_append, List.append_nil] at H
            have hm6 : LksA F16_1 raws16_1 ms w16_1 := (SH.prop H (i := 3) rfl).1
            have hup6 := all2_upT lkr_key hm6 hup
            have hat6 : atT Lk.name raws n = atT Lk.name raws16_1 n := by rw [all2_lowT lkr_key n hm, all2_lowT lkr_key n hm6]
            obtain ⟨q, hq, hqr⟩ := All2.get' hm6 hmi
            obtain ⟨q1, q2, q3, q4⟩ := q
            obtain ⟨d1, d2, d3, d4⟩ := hqr
            dsimp only at d1 d2 d3 d4
            subst d2 d3
            replace d1 := d1.symm
            subst d1
            have hql := lt_of_get hq
            have hq6 : raws16_1[atT Lk.name raws16_1 n]? = some ⟨n, q2, q3, q4⟩ := by rw [← hat6]; exact hq
            have hq7 : raws16_1[((atT Lk.name raws n : Nat) : Int).toNat]? = some ⟨n, q2, q3, q4⟩ := hq
            refine r_assign rfl ?_
            refine LW.nil ?_
            refine thenE_norm (h18 _ _ ?_); clear h18; try clear K18
            refine CW.seq (fun K19 h19 => ?_)
            refine CW.region ?_
            refine r_move rfl ?_
            refine r_move rfl ?_
            refine r_move rfl ?_
            refine r_indexAddrV rfl Try.underlying48 (by simp only [upd_get, ev, Nat.reduceEqDiff, ↓reduceIte] <;> rfl) rfl (by first | assumption | exact SH.rsR H (by (repeat first | exact At.here | apply At.there); done) | exact SH.rsO H (by (repeat first | exact At.here | apply At.there); done) | exact (Rs.nil : Rs Non _ _ _)) (by exact Try.sizeOf53) (by omega) (by omega) ?_
            refine r_fieldAddrO rfl Try.underlying53 rfl Try.sizeOf22 (by decide) (show _ + 3 = _ from rfl) rfl ?_
            refine s_storeR (o := 3) (x1 := (⟨n, q2, q3, v13_6⟩ : Lk)) H Try.sizeOf22 rfl (by simp only [upd_get, ev, Nat.reduceEqDiff, ↓reduceIte] <;> rfl) (by first | rfl | assumption | exact Rs.oneC (by first | assumption | exact SH.rsR H (by (repeat first | exact At.here | apply At.there); done) | exact SH.rsO H (by (repeat first | exact At.here | apply At.there); done) | exact (Rs.nil : Rs Non _ _ _)) | (simp only [List.all_cons, List.all_nil, Bool.and_true, Bool.and_eq_true, Row.cells, Gr.L, Lk.L]; (repeat' constructor) <;> first | rfl | assumption | exact Rs.oneC (by first | assumption | exact SH.rsR H (by (repeat first | exact At.here | apply At.there); done) | exact SH.rsO H (by (repeat first | exact At.here | apply At.there); done) | exact (Rs.nil : Rs Non _ _ _)))) (by (repeat first | exact At.here | apply At.there); done) hq7 (by rfl) (by rfl) (by rfl) (by first | rfl | assumption | exact Rs.oneC (by first | assumption | exact SH.rsR H (by (repeat first | exact At.here | apply At.there); done) | exact SH.rsO H (by (repeat first | exact At.here | apply At.there); done) | exact (Rs.nil : Rs Non _ _ _)) | (simp only [List.all_cons, List.all_nil, Bool.and_true, Bool.and_eq_true, Row.cells, Gr.L, Lk.L]; (repeat' constructor) <;> first | rfl | assumption | exact Rs.oneC (by first | assumption | exact SH.rsR H (by (repeat first | exact At.here | apply At.there); done) | exact SH.rsO H (by (repeat first | exact At.here | apply At.there); done) | exact (Rs.nil : Rs Non _ _ _)))) ?_
            clear H
            intro w17_5 H
            try dsimp only [replC, List.cons_append, List.nil_append, List.append_nil, agg, cellsL, Value.cells, List.toList_toArray, List.set_cons_zero, List.set_cons_succ, spliceL, List.take_succ_cons, List.take_zero, List.drop_succ_cons, List.drop_zero, List.length_cons, List.length_nil, Nat.reduceAdd, Row.cells, Gr.L, Lk.L] at H
            refine LW.nil ?_
            refine thenE_norm ?_
            refine cut (K := K19) [18, 20] (fun σ => ?_)
            simp only [setL, keepE, upd_get, ev, Nat.reduceEqDiff, ↓reduceIte]
            refine h19 _ _ ?_; clear h19; try clear K19
            refine CW.seq (fun K20 h20 => ?_)
            refine CW.region ?_
            refine r_move rfl ?_
            refine r_move rfl ?_
            refine r_assign rfl ?_
            refine r_assign rfl ?_
            refine r_assign rfl ?_
            refine LW.nil ?_
            refine thenE_norm (h20 _ _ ?_); clear h20; try clear K20
            refine CW.ret (ret3 Try.results32 (by simp only [upd_get, ev, Nat.reduceEqDiff, ↓reduceIte]; rfl) (by simp only [upd_get, ev, Nat.reduceEqDiff, ↓reduceIte]; rfl) (by simp only [upd_get, ev, Nat.reduceEqDiff, ↓reduceIte]; rfl) ?_)
            have hput : raws16_1.set (atT Lk.name raws n) (⟨n, q2, q3, v13_6⟩ : Lk) = putT Lk.name raws16_1 ⟨n, q2, q3, v13_6⟩ := by
              rw [hat6]
              exact (putT_in (m := (⟨n, q2, q3, v13_6⟩ : Lk)) hup6 hq6 rfl).symm
            rw [take_join hmf hc3 hw hin2 (fun h => h hc6)]
            have H2 := SH.absorb (A' := LksB _ (raws16_1.set (atT Lk.name raws n) (⟨n, q2, q3, v13_6⟩ : Lk)) (putT Lm.name ms ⟨n, q2, q3, (joinM m4 c).1⟩)) (SH.sel H [3, 1, 0, 2] (by decide) rfl) trivial lksb_st (fun h k => by
              rw [hput]
              exact LksB.put h (fun b hb => .inl hb) ⟨rfl, rfl, rfl, (Ow.rs k).mono fun b _ hb => .inr hb⟩ ((Ow.wi k).mono fun b hb => .inr hb))
            exact ⟨_, _, _, _, rfl, SH.give (SH.sel H2 [2, 0] (by decide) rfl) (List.Sublist.refl _) ⟨trivial, trivial, trivial⟩⟩
  · rw [hin]
    have hmf := none_raw hm hf
    refine CW.region ?_
    refine r_move rfl ?_
    refine r_not rfl rfl ?_
    refine r_move rfl ?_
    refine' LW.grpAnd (n := 4) (ts := [0, 1, 2, 3, 4, 13, 14]) (d := 34) (tj := 30) rfl (fun hg2_3 => ?_) (fun hg2_3 => ?_) (fun σ => ?_)
    rotate_left
    · simp only [List.take_succ_cons, List.take_zero]
      have hg2_3P := hg2_3
      try simp only [decide_eq_true_eq, decide_eq_false_iff_not, Bool.and_eq_true, Bool.or_eq_true, Bool.and_eq_false_iff, Bool.or_eq_false_iff, Bool.not_eq_true', Bool.not_eq_false', beq_iff_eq, bne_iff_ne] at hg2_3P
      refine LW.want rfl rfl hg2_3 ?_
      refine r_move rfl ?_
      refine LW.want rfl rfl hg2_3 ?_
      first
        | refine r_lenV rfl Try.underlying48 (by simp only [upd_get, ev, Nat.reduceEqDiff, ↓reduceIte] <;> rfl) (by first | assumption | exact SH.rsR H (by (repeat first | exact At.here | apply At.there); done) | exact SH.rsO H (by (repeat first | exact At.here | apply At.there); done) | exact (Rs.nil : Rs Non _ _ _)) ?_
        | refine r_len rfl Try.underlying48 rfl ?_
      refine LW.want rfl rfl hg2_3 ?_
      refine r_geq rfl rfl rfl ?_
      refine r_pickT rfl rfl hg2_3 ?_
      refine LW.nil (thenE_norm ⟨rfl, rfl, rfl⟩)
    · simp only [List.take_succ_cons, List.take_zero]
      refine LW.skip rfl (fun _ e => by cases e; decide) rfl hg2_3 ?_
      refine LW.skip rfl (fun _ e => by cases e; decide) rfl hg2_3 ?_
      refine LW.skip rfl (fun _ e => by cases e; decide) rfl hg2_3 ?_
      refine r_pickF rfl rfl hg2_3 ?_
      refine LW.nil (thenE_norm ⟨rfl, rfl, rfl⟩)
    simp only [setL, keepE, upd_get, ev, Nat.reduceEqDiff, ↓reduceIte]; simp only [List.drop_succ_cons, List.drop_zero]
    refine r_assign rfl ?_
    refine LW.nil ?_
    refine thenE_norm (h4 _ _ ?_); clear h4; try clear K4
    refine CW.cond rfl (fun hc1 => ?_) (fun hc1 => ?_)
    · try simp only [decide_eq_true_eq, decide_eq_false_iff_not, Bool.and_eq_true, Bool.or_eq_true, Bool.and_eq_false_iff, Bool.or_eq_false_iff, Bool.not_eq_true', Bool.not_eq_false', beq_iff_eq, bne_iff_ne, ne_eq, Decidable.not_not] at hc1
      refine CW.seq (fun K21 h21 => ?_)
      refine CW.region ?_
      refine r_assign rfl ?_
      refine r_assign rfl ?_
      refine r_assign rfl ?_
      refine LW.nil ?_
      refine thenE_norm (h21 _ _ ?_); clear h21; try clear K21
      refine CW.ret (blockE_ret (thenE_ret (ret3 Try.results32 (by simp only [upd_get, ev, Nat.reduceEqDiff, ↓reduceIte]; rfl) (by simp only [upd_get, ev, Nat.reduceEqDiff, ↓reduceIte]; rfl) (by simp only [upd_get, ev, Nat.reduceEqDiff, ↓reduceIte]; rfl) ?_)))
      rw [take_full hmf (by first | omega | (simp at hc1; omega))]
      exact ⟨_, _, _, _, rfl, SH.give (addLb (SH.sel (H.addO (α := Lk) 53) [1] (by decide) rfl)) (List.Sublist.refl _) ⟨trivial, trivial, trivial⟩⟩
    · try simp only [decide_eq_true_eq, decide_eq_false_iff_not, Bool.and_eq_true, Bool.or_eq_true, Bool.and_eq_false_iff, Bool.or_eq_false_iff, Bool.not_eq_true', Bool.not_eq_false', beq_iff_eq, bne_iff_ne, ne_eq, Decidable.not_not] at hc1
      refine CW.seq (fun K22 h22 => ?_)
      refine CW.region ?_
      refine r_move rfl ?_
      refine r_not rfl rfl ?_
      refine r_assign rfl ?_
      refine LW.nil ?_
      refine thenE_norm (h22 _ _ ?_); clear h22; try clear K22
      refine CW.condT rfl (by first | rfl | (simp only [decide_eq_true_eq, decide_eq_false_iff_not, Bool.and_eq_true, Bool.or_eq_true, Bool.and_eq_false_iff, Bool.or_eq_false_iff, Bool.not_eq_true', Bool.not_eq_false', beq_iff_eq, bne_iff_ne]; omega) | simp_all) ?_
      refine CW.seq (fun K23 h23 => ?_)
      refine CW.region ?_
      refine r_move rfl ?_
      refine r_call rfl Try.call58 (by simp only [List.map_cons, List.map_nil, List.map_toArray, List.toList_toArray, upd_get, ev, Nat.reduceEqDiff, ↓reduceIte] <;> rfl) (copiedW_c _ (SH.rsR H (i := 0) rfl) (hm.up0 (SH.ext H)) (by omega) hs) ?_
      rintro _ w5_1 ⟨v5_1, raws5_1, g5_1, F5_1, rfl, K⟩
      refine ⟨_, rfl, ?_⟩
      replace H := SH.call H K
      clear K
      try dsimp only [replC, List.cons_append, List.nil_append, List.append_nil] at H
      have hm5 : LksA F5_1 raws5_1 ms w5_1 := (SH.prop H (i := 2) rfl).1
      have l5 := All2.len hm5
      have hup5 := all2_upT lkr_key hm5 hup
      have hat5 : atT Lk.name raws n = atT Lk.name raws5_1 n := by rw [all2_lowT lkr_key n hm, all2_lowT lkr_key n hm5]
      have hno5 : ∀ q ∈ raws5_1, Lk.name q ≠ n := fun q hq e => by
        obtain ⟨j, hj⟩ := List.mem_iff_getElem?.1 hq
        obtain ⟨p, hp, hpr⟩ := All2.get hm5 hj
        exact findT_none hmf p (List.mem_of_getElem? hp) (by rw [← hpr.1]; exact e)
      refine r_move rfl ?_
      refine r_move rfl ?_
      refine r_move rfl ?_
      refine r_move rfl ?_
      refine r_add rfl rfl rfl (wr_i64 (by omega) (by omega)) ?_
      refine r_buildQ rfl Try.underlying53 Try.zeroValue53 rfl (pl := [(0, 1), (1, 1), (2, 1), (3, 1)]) (by intro w; simp [go_sem]) (qs := [(0, [_]), (1, [_]), (2, [_])]) (cs := [_, _, _, .slice none 0 0]) ⟨rfl, cells_one (by simp only [upd_get, ev, Nat.reduceEqDiff, ↓reduceIte] <;> rfl) (by first | rfl | exact Rs.oneC (by first | assumption | exact SH.rsR H (by (repeat first | exact At.here | apply At.there); done) | exact SH.rsO H (by (repeat first | exact At.here | apply At.there); done) | exact (Rs.nil : Rs Non _ _ _))), rfl, cells_one (by simp only [upd_get, ev, Nat.reduceEqDiff, ↓reduceIte] <;> rfl) (by first | rfl | exact Rs.oneC (by first | assumption | exact SH.rsR H (by (repeat first | exact At.here | apply At.there); done) | exact SH.rsO H (by (repeat first | exact At.here | apply At.there); done) | exact (Rs.nil : Rs Non _ _ _))), rfl, cells_one (by simp only [upd_get, ev, Nat.reduceEqDiff, ↓reduceIte] <;> rfl) (by first | rfl | exact Rs.oneC (by first | assumption | exact SH.rsR H (by (repeat first | exact At.here | apply At.there); done) | exact SH.rsO H (by (repeat first | exact At.here | apply At.there); done) | exact (Rs.nil : Rs Non _ _ _))), trivial⟩ rfl ?_
      refine r_buildSliceA (vs := [_]) rfl Try.underlying48 Try.sizeOf53 Try.zeroValue53 rfl rfl rfl rfl (by simp only [List.map_cons, List.map_nil, List.toList_toArray, numbered, Nat.reduceAdd, upd_get, ev, Nat.reduceEqDiff, ↓reduceIte] <;> rfl) rfl (by intro v hv; simp only [List.mem_cons, List.not_mem_nil, or_false] at hv; rcases hv with rfl <;> rfl) ?_
      intro b5_8 w5_8 hb5_8 hs5_8 hE5_8 hB5_8
      replace H := SH.call H (SH.fromB hE5_8 hb5_8 hs5_8 hB5_8)
      clear hb5_8 hs5_8 hE5_8 hB5_8
      try dsimp only [replC, List.cons_append, List.nil_append, List.append_nil, agg, cellsL, Value.cells, List.toList_toArray, List.set_cons_zero, List.set_cons_succ, spliceL, List.take_succ_cons, List.take_zero, List.drop_succ_cons, List.drop_zero, List.length_cons, List.length_nil, Nat.reduceAdd, Row.cells, Gr.L, Lk.L] at H
      replace H := SH.row (b := b5_8) (xs := ([⟨n, c, tok + 1, .slice none 0 0⟩] : List Lk)) (n := 1) (cap := 1) H (by (repeat first | exact At.here | apply At.there); done) (by simp only [flat, List.flatMap_cons, List.flatMap_nil, cellsL, agg, List.append_nil, List.cons_append, List.nil_append, List.toList_toArray, Row.cells, Gr.L, Lk.L] <;> rfl) (by intro x hx; first | rfl | (simp at hx; done) | (simp only [List.mem_cons, List.not_mem_nil, or_false] at hx; rcases hx with rfl <;> first | rfl | exact (by first | rfl | assumption | exact Rs.oneC (by first | assumption | exact SH.rsR H (by (repeat first | exact At.here | apply At.there); done) | exact SH.rsO H (by (repeat first | exact At.here | apply At.there); done) | exact (Rs.nil : Rs Non _ _ _)) | (simp only [List.all_cons, List.all_nil, Bool.and_true, Bool.and_eq_true, Row.cells, Gr.L, Lk.L]; (repeat' constructor) <;> first | rfl | assumption | exact Rs.oneC (by first | assumption | exact SH.rsR H (by (repeat first | exact At.here | apply At.there); done) | exact SH.rsO H (by (repeat first | exact At.here | apply At.there); done) | exact (Rs.nil : Rs Non _ _ _)))))) (by rfl) rfl (by decide)
      try dsimp only [replC, List.cons_append, List.nil_append, List.append_nil, agg, cellsL, Value.cells, List.toList_toArray, List.set_cons_zero, List.set_cons_succ, spliceL, List.take_succ_cons, List.take_zero, List.drop_succ_cons, List.drop_zero, List.length_cons, List.length_nil, Nat.reduceAdd, Row.cells, Gr.L, Lk.L] at H
      refine r_call rfl Try.call57 (by simp only [List.map_cons, List.map_nil, List.map_toArray, List.toList_toArray, upd_get, ev, Nat.reduceEqDiff, ↓reduceIte] <;> rfl) (InsK_c (y := ⟨n, c, tok + 1, .slice none 0 0⟩) (atT Lk.name raws n) _ (SH.ow H (i := 1) rfl) (SH.ow H (i := 3) rfl) (fun b h1 h2 => (SH.val H).apart (i := 1) (j := 3) rfl rfl (by decide) (.inl trivial) b h2 h1) (by omega) (by omega)) ?_
      rintro _ w5_9 ⟨v5_9, g5_9, rfl, K⟩
      refine ⟨_, rfl, ?_⟩
      replace H := SH.updO H (i := 1) rfl K
      clear K
      try dsimp only [replC, List.cons_append, List.nil_append, List.append_nil] at H
      refine r_assign rfl ?_
      refine r_assign rfl ?_
      refine r_assign rfl ?_
      refine LW.nil ?_
      refine thenE_norm ?_
      refine cut (K := K23) [10, 11, 12] (fun σ => ?_)
      simp only [setL, keepE, upd_get, ev, Nat.reduceEqDiff, ↓reduceIte]
      refine h23 _ _ ?_; clear h23; try clear K23
      refine CW.ret (blockE_ret (thenE_ret (ret3 Try.results32 (by simp only [upd_get, ev, Nat.reduceEqDiff, ↓reduceIte]; rfl) (by simp only [upd_get, ev, Nat.reduceEqDiff, ↓reduceIte]; rfl) (by simp only [upd_get, ev, Nat.reduceEqDiff, ↓reduceIte]; rfl) ?_)))
      have hput : raws5_1.take (atT Lk.name raws n) ++ [(⟨n, c, tok + 1, .slice none 0 0⟩ : Lk)] ++ raws5_1.drop (atT Lk.name raws n) = putT Lk.name raws5_1 ⟨n, c, tok + 1, .slice none 0 0⟩ := by
        rw [hat5]; exact (putT_out (m := (⟨n, c, tok + 1, .slice none 0 0⟩ : Lk)) hup5 hno5).symm
      have h4 : ¬ 4 ≤ ms.length := by first | omega | (simp at hc1; omega)
      rw [take_new hmf h4]
      have H2 := SH.cast (d := .P F5_1 (LksB F5_1 (raws5_1.take (atT Lk.name raws n) ++ [(⟨n, c, tok + 1, .slice none 0 0⟩ : Lk)] ++ raws5_1.drop (atT Lk.name raws n)) (putT Lm.name ms ⟨n, c, tok + 1, []⟩))) H (i := 2) rfl (fun _ => trivial) (fun b hb => hb) lksb_st (fun h => by
        rw [hput]; exact LksB.put h (fun b hb => hb) ⟨rfl, rfl, rfl, Rs.nil⟩ WI.nil)
      exact ⟨_, _, _, _, rfl, SH.give (SH.sel H2 [1, 2] (by decide) rfl) (List.Sublist.refl _) ⟨trivial, trivial, trivial⟩⟩
end Go.Proofs.Ytaggdlbjgjagbaa
