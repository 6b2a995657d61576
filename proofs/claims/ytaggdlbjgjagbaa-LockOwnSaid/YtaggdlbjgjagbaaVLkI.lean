/-
  The walks of layer 8's laws: what is done next by the document; locks made by acts.
-/
import Derived.Test.YtaggdlbjgjagbaaVLkH
namespace Go.Proofs.Ytaggdlbjgjagbaa
set_option linter.unusedSimpArgs false
set_option linter.unusedVariables false
set_option maxRecDepth 20000
open Go.V Go.RowKit Go.ChangeShapes Go.WideShapes

theorem SameGrants_c {F G : Nat → Prop} {u v : Value} {xs ys : List Gr} (w : World) (hu : Rs F w u xs) (hv : Rs G w v ys) :
    Calls Try.prog 45 #[u, v] w fun e w' => e = .returned (.bool (decide (xs = ys))) ∧ Ext0 w w' := by
  have H := ((SH.start w).arg hu).arg hv
  have h63 := hu.len63
  have h64 := hv.len63
  refine calls_of_CW Try.func45 rfl Try.ntmps45 (Nat.le_of_ble_eq_true rfl) ?_
  simp only [argE, argFrom, Nat.reduceAdd]
  refine CW.seq (fun K1 h1 => ?_)
  refine CW.region ?_
  refine r_assign rfl ?_
  refine LW.nil ?_
  refine thenE_norm (h1 _ _ ?_); clear h1; try clear K1
  refine CW.seq (fun K2 h2 => ?_)
  refine CW.seq (fun K3 h3 => ?_)
  refine CW.region ?_
  refine r_move rfl ?_
  first
    | refine r_lenV rfl Try.underlying72 (by simp only [upd_get, ev, Nat.reduceEqDiff, ↓reduceIte] <;> rfl) (by first | assumption | exact SH.rsR H (by (repeat first | exact At.here | apply At.there); done) | exact SH.rsO H (by (repeat first | exact At.here | apply At.there); done) | exact (Rs.nil : Rs Non _ _ _)) ?_
    | refine r_len rfl Try.underlying72 rfl ?_
  refine r_move rfl ?_
  first
    | refine r_lenV rfl Try.underlying72 (by simp only [upd_get, ev, Nat.reduceEqDiff, ↓reduceIte] <;> rfl) (by first | assumption | exact SH.rsR H (by (repeat first | exact At.here | apply At.there); done) | exact SH.rsO H (by (repeat first | exact At.here | apply At.there); done) | exact (Rs.nil : Rs Non _ _ _)) ?_
    | refine r_len rfl Try.underlying72 rfl ?_
  refine r_neq rfl rfl rfl ?_
  refine LW.nil ?_
  refine thenE_norm (h3 _ _ ?_); clear h3; try clear K3
  refine CW.cond rfl (fun hc1 => ?_) (fun hc1 => ?_)
  · try simp only [decide_eq_true_eq, decide_eq_false_iff_not, Bool.and_eq_true, Bool.or_eq_true, Bool.and_eq_false_iff, Bool.or_eq_false_iff, Bool.not_eq_true', Bool.not_eq_false', beq_iff_eq, bne_iff_ne, ne_eq, Decidable.not_not] at hc1
    refine CW.seq (fun K4 h4 => ?_)
    refine CW.region ?_
    refine r_assign rfl ?_
    refine LW.nil ?_
    refine thenE_norm (h4 _ _ ?_); clear h4; try clear K4
    refine CW.ret (thenE_ret (ret1 Try.results45 (by simp only [upd_get, ev, Nat.reduceEqDiff, ↓reduceIte]; rfl) ?_))
    rw [decide_eq_false (fun h => hc1 (by rw [h]))]
    exact ⟨rfl, H.ext⟩
  · try simp only [decide_eq_true_eq, decide_eq_false_iff_not, Bool.and_eq_true, Bool.or_eq_true, Bool.and_eq_false_iff, Bool.or_eq_false_iff, Bool.not_eq_true', Bool.not_eq_false', beq_iff_eq, bne_iff_ne, ne_eq, Decidable.not_not] at hc1
    refine CW.skip ?_
    refine thenE_norm (h2 _ _ ?_); clear h2; try clear K2
    refine CW.seq (fun K5 h5 => ?_)
    refine CW.seq (fun K6 h6 => ?_)
    refine CW.region ?_
    refine r_assign rfl ?_
    refine LW.nil ?_
    refine thenE_norm (h6 _ _ ?_); clear h6; try clear K6
    refine CW.block ?_
    refine CW.loopR [0, 1] [5] (fun m vs w' => ∃ i : Nat, vs = [.int .i64 i] ∧ i ≤ xs.length ∧ m = xs.length - i ∧ xs.take i = ys.take i ∧ SH Non Any w w' [.R (Old w) u xs, .R (Old w) v ys]) (xs.length) ?_ ?_
    · exact ⟨0, rfl, by omega, by omega, rfl, H⟩
    try clear H
    rintro n1 vs1 wL1 σ ⟨i, rfl, hi, rfl, htk, H⟩
    simp only [setL, keepE, upd_get, ev, Nat.reduceEqDiff, ↓reduceIte]
    refine CW.seq (fun K7 h7 => ?_)
    refine CW.seq (fun K8 h8 => ?_)
    refine CW.region ?_
    refine r_move rfl ?_
    refine r_move rfl ?_
    first
      | refine r_lenV rfl Try.underlying72 (by simp only [upd_get, ev, Nat.reduceEqDiff, ↓reduceIte] <;> rfl) (by first | assumption | exact SH.rsR H (by (repeat first | exact At.here | apply At.there); done) | exact SH.rsO H (by (repeat first | exact At.here | apply At.there); done) | exact (Rs.nil : Rs Non _ _ _)) ?_
      | refine r_len rfl Try.underlying72 rfl ?_
    refine r_lss rfl rfl rfl ?_
    refine LW.nil ?_
    refine thenE_norm (h8 _ _ ?_); clear h8; try clear K8
    refine CW.cond rfl (fun hc2 => ?_) (fun hc2 => ?_)
    · try simp only [decide_eq_true_eq, decide_eq_false_iff_not, Bool.and_eq_true, Bool.or_eq_true, Bool.and_eq_false_iff, Bool.or_eq_false_iff, Bool.not_eq_true', Bool.not_eq_false', beq_iff_eq, bne_iff_ne, ne_eq, Decidable.not_not] at hc2
      refine CW.skip ?_
      refine thenE_norm (h7 _ _ ?_); clear h7; try clear K7
      refine CW.seq (fun K9 h9 => ?_)
      refine CW.block ?_
      refine CW.seq (fun K10 h10 => ?_)
      obtain ⟨⟨x1, x2⟩, hx⟩ := get_of_lt (show i < xs.length by omega)
      obtain ⟨⟨y1, y2⟩, hy⟩ := get_of_lt (show i < ys.length by omega)
      refine CW.drawH [] H (List.Sublist.refl _) (by kernel_rfl) rfl ?_
      clear H
      intro w6d H
      refine DL.take (i := 0) [] rfl (by kernel_rfl) (by kernel_rfl) (by kernel_rfl) (by kernel_rfl) rfl rfl (fun u H => x_move ) H ?_
      refine DL.take (i := 1) [] rfl (by kernel_rfl) (by kernel_rfl) (by kernel_rfl) (by kernel_rfl) rfl rfl (fun u H => x_move ) H ?_
      refine DL.take (i := 2) [] rfl (by kernel_rfl) (by kernel_rfl) (by kernel_rfl) (by kernel_rfl) rfl rfl (fun u H => x_indexAddrV Try.underlying72 (by simp only [upd_get, ev, Nat.reduceEqDiff, ↓reduceIte] <;> rfl) rfl (by first | assumption | exact SH.rsR H (by (repeat first | exact At.here | apply At.there); done) | exact SH.rsO H (by (repeat first | exact At.here | apply At.there); done) | exact (Rs.nil : Rs Non _ _ _)) (by exact Try.sizeOf90) (by omega) (by omega)) H ?_
      refine DL.take (i := 3) [] rfl (by kernel_rfl) (by kernel_rfl) (by kernel_rfl) (by kernel_rfl) rfl rfl (fun u H => x_loadA Try.isAgg90 Try.sizeOf90 rfl (by first | exact Rs.cells0 (by first | assumption | exact SH.rsR H (by (repeat first | exact At.here | apply At.there); done) | exact SH.rsO H (by (repeat first | exact At.here | apply At.there); done) | exact (Rs.nil : Rs Non _ _ _)) (by assumption)) (by rfl)) H ?_
      refine DL.take (i := 4) [] rfl (by kernel_rfl) (by kernel_rfl) (by kernel_rfl) (by kernel_rfl) rfl rfl (fun u H => x_move ) H ?_
      refine DL.take (i := 5) [] rfl (by kernel_rfl) (by kernel_rfl) (by kernel_rfl) (by kernel_rfl) rfl rfl (fun u H => x_move ) H ?_
      refine DL.take (i := 6) [] rfl (by kernel_rfl) (by kernel_rfl) (by kernel_rfl) (by kernel_rfl) rfl rfl (fun u H => x_indexAddrV Try.underlying72 (by simp only [upd_get, ev, Nat.reduceEqDiff, ↓reduceIte] <;> rfl) rfl (by first | assumption | exact SH.rsR H (by (repeat first | exact At.here | apply At.there); done) | exact SH.rsO H (by (repeat first | exact At.here | apply At.there); done) | exact (Rs.nil : Rs Non _ _ _)) (by exact Try.sizeOf90) (by omega) (by omega)) H ?_
      refine DL.take (i := 7) [] rfl (by kernel_rfl) (by kernel_rfl) (by kernel_rfl) (by kernel_rfl) rfl rfl (fun u H => x_loadA Try.isAgg90 Try.sizeOf90 rfl (by first | exact Rs.cells0 (by first | assumption | exact SH.rsR H (by (repeat first | exact At.here | apply At.there); done) | exact SH.rsO H (by (repeat first | exact At.here | apply At.there); done) | exact (Rs.nil : Rs Non _ _ _)) (by assumption)) (by rfl)) H ?_
      refine DL.take (i := 8) [] rfl (by kernel_rfl) (by kernel_rfl) (by kernel_rfl) (by kernel_rfl) rfl rfl (fun u H => x_neqG (by kernel_rfl) rfl rfl (EqA.struct Try.underlying90 (by kernel_rfl) (EqF.one rfl Try.isAgg9 rfl rfl (EqA.str Try.underlying9) (EqF.one rfl Try.isAgg3 rfl rfl (EqA.int Try.underlying3) EqF.nil)))) H ?_
      refine DL.done (by kernel_rfl) ?_
      refine thenE_norm ?_
      refine cut (K := K10) [0, 1, 5, 25] (fun σ => ?_)
      simp only [setL, keepE, upd_get, ev, Nat.reduceEqDiff, ↓reduceIte]
      refine h10 _ _ ?_; clear h10; try clear K10
      refine CW.cond rfl (fun hc3 => ?_) (fun hc3 => ?_)
      · try simp only [decide_eq_true_eq, decide_eq_false_iff_not, Bool.and_eq_true, Bool.or_eq_true, Bool.and_eq_false_iff, Bool.or_eq_false_iff, Bool.not_eq_true', Bool.not_eq_false', beq_iff_eq, bne_iff_ne, ne_eq, Decidable.not_not] at hc3
        refine CW.seq (fun K11 h11 => ?_)
        refine CW.region ?_
        refine r_assign rfl ?_
        refine LW.nil ?_
        refine thenE_norm (h11 _ _ ?_); clear h11; try clear K11
        refine CW.ret (blockE_ret (thenE_ret (thenE_ret (blockE_ret (thenE_ret (ret1 Try.results45 (by simp only [upd_get, ev, Nat.reduceEqDiff, ↓reduceIte]; rfl) ?_))))))
        have hne : xs ≠ ys := fun h => by
          rw [h, hy] at hx
          cases hx
          simp at hc3
        rw [decide_eq_false hne]
        exact ⟨rfl, H.ext⟩
      · try simp only [decide_eq_true_eq, decide_eq_false_iff_not, Bool.and_eq_true, Bool.or_eq_true, Bool.and_eq_false_iff, Bool.or_eq_false_iff, Bool.not_eq_true', Bool.not_eq_false', beq_iff_eq, bne_iff_ne, ne_eq, Decidable.not_not] at hc3
        refine CW.skip ?_
        refine blockE_norm ?_
        refine thenE_norm (h9 _ _ ?_); clear h9; try clear K9
        refine CW.region ?_
        refine r_move rfl ?_
        refine r_add rfl rfl rfl (wr_i64 (by omega) (by omega)) ?_
        refine r_assign rfl ?_
        refine LW.nil ?_
        refine thenE_norm ⟨rfl, ?_⟩
        have hxy : (⟨x1, x2⟩ : Gr) = ⟨y1, y2⟩ := by simp at hc3; simp [hc3]
        rw [hxy] at hx
        exact ⟨_, by omega, i + 1, rfl, by omega, rfl, by rw [V.take_snoc hx, V.take_snoc hy, htk], H⟩
    · try simp only [decide_eq_true_eq, decide_eq_false_iff_not, Bool.and_eq_true, Bool.or_eq_true, Bool.and_eq_false_iff, Bool.or_eq_false_iff, Bool.not_eq_true', Bool.not_eq_false', beq_iff_eq, bne_iff_ne, ne_eq, Decidable.not_not] at hc2
      refine CW.exit (thenE_exit (thenE_exit (blockE_hit ?_)))
      refine thenE_norm (h5 _ _ ?_); clear h5; try clear K5
      refine CW.seq (fun K12 h12 => ?_)
      refine CW.region ?_
      refine r_assign rfl ?_
      refine LW.nil ?_
      refine thenE_norm (h12 _ _ ?_); clear h12; try clear K12
      refine CW.ret (ret1 Try.results45 (by simp only [upd_get, ev, Nat.reduceEqDiff, ↓reduceIte]; rfl) ?_)
      obtain rfl : i = xs.length := by omega
      rw [List.take_length, List.take_of_length_le (by omega)] at htk
      rw [decide_eq_true htk]
      exact ⟨rfl, H.ext⟩

theorem SH.apartI {U G : Nat → Prop} {w0 w : World} {L : List Ch} {d c : Ch} {i : Nat} (H : SH U G w0 w L) (hi : At L i d) (hd : ¬ d.own) (hc : c ∈ L) (ho : c.own) : ∀ b, c.F b → d.F b → False := by
  obtain ⟨L1, L2, e, _⟩ := hi.split
  have hp := H.val.2
  rw [e] at hp hc
  have hp1 := List.pairwise_append.1 hp
  intro b h1 h2
  rcases (by simpa using hc : c ∈ L1 ∨ c = d ∨ c ∈ L2) with hm | rfl | hm
  · exact hp1.2.2 c hm d (by simp) (.inl ho) b h1 h2
  · exact hd ho
  · exact (List.pairwise_cons.1 hp1.2.1).1 c hm (.inr ho) b h2 h1
/-- What is told may be what is looked at already, or new. -/
theorem SH.callI {U G F1 F2 : Nat → Prop} {α : Type} {_r : Row α} {A : World → Prop} {w0 w w' : World} {L M : List Ch} {v : Value} {xs : List α} {i j : Nat} (H : SH U G w0 w L) (hi : At L i (.R F1 v xs)) (hj : At L j (.I F2 A)) (K : SH Non (fun b => F1 b ∨ F2 b) w w' M) : SH U G w0 w' (L ++ M) := by
  refine SH.callG H K (fun b _ hb => ?_) (fun c hc ho b h1 h2 => ?_)
  · rcases hb with hb | hb
    · rcases (H.val.1 _ hi.mem).imm b hb with (q | q) | q
      · exact .inl q
      · exact .inr (.inl q)
      · exact .inr (.inr q)
    · rcases (H.val.1 _ hj.mem).imm b hb with (q | q) | q
      · exact .inl q
      · exact .inr (.inl q)
      · exact .inr (.inr q)
  · rcases h2 with h2 | h2
    · exact SH.apartI H hi (fun h => h) hc ho b h1 h2
    · exact SH.apartI H hj (fun h => h) hc ho b h1 h2
theorem SH.argFI {G F : Nat → Prop} {A : World → Prop} {w : World} {L : List Ch} (H : SH Non G w w L) (hA : A w) (hst : Ch.St F A) (hlt : ∀ b, F b → b < w.heap.size) (hG : ∀ b, F b → G b) : SH Non G w w (L ++ [.I F A]) := by
  refine ⟨H.ext, H.val.app (Val.one ⟨hA, hst, hlt, fun h => h.elim, fun b hb => .inr (hG b hb)⟩) ?_⟩
  intro c hc d hd ho b h2 h3
  rw [List.mem_singleton] at hd
  subst hd
  rcases ho with ho | ho
  · rcases (H.val.1 c hc).own ho b h2 with q | q
    · exact q
    · exact absurd (hlt b h3) (by omega)
  · exact ho
theorem SH.addIN {U G : Nat → Prop} {w0 w : World} {L : List Ch} (H : SH U G w0 w L) : SH U G w0 w (L ++ [.I Non (LksA Non [] [])]) :=
  H.call ⟨Ext.refl _ _, Val.one ⟨trivial, lks_st, fun b h => h.elim, fun h => h.elim, fun b h => h.elim⟩⟩
theorem LksA.lt {F : Nat → Prop} {w : World} {rs : List Lk} {ms : List Lm} (h : LksA F rs ms w) : LksA (fun b => F b ∧ b < w.heap.size) rs ms w := All2.mono (fun _ _ q => ⟨q.1, q.2.1, q.2.2.1, q.2.2.2.mono fun b hb hF => ⟨hF, hb⟩⟩) h
/-- Names by numbers. -/
def NmK (ms : List Lm) : Prop := ∀ m ∈ ms, ∃ k : Int, 0 ≤ k ∧ m.name = nameOf k
theorem NmK.nil : NmK [] := fun m h => by cases h
theorem take_nm {ms : List Lm} {k c tok : Int} {wait : Bool} (h : NmK ms) (hk : 0 ≤ k) : NmK (takeM ms (nameOf k) c tok wait).1 := by
  cases hf : ms.find? (isT Lm.name (nameOf k)) with
  | none =>
    by_cases h4 : 4 ≤ ms.length
    · rw [take_full hf h4]; exact NmK.nil
    · rw [take_new hf h4]
      intro m hm
      rcases putT_mem hm with rfl | ⟨hm, _⟩
      · exact ⟨k, hk, rfl⟩
      · exact h m hm
  | some x =>
    obtain ⟨hxn, hxm⟩ := findT_key hf
    by_cases h1 : x.holder = c
    · rw [take_twice hf h1]; exact NmK.nil
    by_cases h2 : wait = false
    · rw [take_busy hf h1 h2]; exact NmK.nil
    by_cases h3 : c ∈ x.line
    · rw [take_in hf h1 h2 h3]; exact h
    by_cases h4 : (joinM x.line c).2.2 ≠ 0
    · rw [take_not hf h1 h2 h3 h4]; exact NmK.nil
    · rw [take_join hf h1 h2 h3 h4]
      intro m hm
      rcases putT_mem hm with rfl | ⟨hm, _⟩
      · exact ⟨k, hk, hxn⟩
      · exact h m hm
theorem free_nm {ms : List Lm} {n : ByteArray} {c tok : Int} (h : NmK ms) : NmK (freeM ms n c tok).1 := by
  cases hf : ms.find? (isT Lm.name n) with
  | none => rw [free_none hf]; exact NmK.nil
  | some x =>
    obtain ⟨hxn, hxm⟩ := findT_key hf
    have hput : ∀ y : Lm, y.name = x.name → NmK (putT Lm.name ms y) := fun y hy m hm => by
      rcases putT_mem hm with rfl | ⟨hm, _⟩
      · rw [hy]; exact h x hxm
      · exact h m hm
    by_cases h1 : x.holder = c
    · by_cases h2 : x.line = []
      · rw [free_gone hf h1 h2]; exact fun m hm => h m (List.mem_filter.1 hm).1
      · rw [free_next hf h1 h2]; exact hput _ rfl
    · by_cases h2 : c ∈ x.line
      · rw [free_leave hf h1 h2]; exact hput _ rfl
      · rw [free_no hf h1 h2]; exact NmK.nil
theorem drop_nm {ms : List Lm} {gone : List Int} {tok g : Int} (h : NmK ms) : NmK (dropM gone tok (ms.map (woL gone)) g).1 := fun m hm => by
  have h1 := (drop_names (gone := gone) (tok := tok) (ms.map (woL gone)) g).subset (List.mem_map_of_mem (f := Lm.name) hm)
  rw [List.map_map] at h1
  obtain ⟨y, hy, e⟩ := List.mem_map.1 h1
  obtain ⟨k, hk, hn⟩ := h y hy
  exact ⟨k, hk, by rw [← e]; exact hn⟩
theorem OkK.nodup {ms : List Lm} {tok : Int} (h : OkK ms tok) : ∀ m ∈ ms, m.line.Nodup := fun m hm => (right_iff.1 (okL_iff.1 (h.all m hm).1).2.1).1.2
set_option maxHeartbeats 16000000 in
theorem next_c {F K : Nat → Prop} {v : Value} {raws : List Lk} {ms : List Lm} (tok : Int) (a : Act8) (w : World) (hv : Rs F w v raws) (hm : LksA K raws ms w) (hok : OkK ms tok) (hnm : NmK ms) (t0 : 0 ≤ tok) (t1 : tok ≤ 1000) :
    Calls Try.prog 43 #[v, .int .i64 tok, agg a] w fun e w' => ∃ (v' : Value) (raws' : List Lk) (ns : List Lm) (tok' : Int) (FU' FL' : Nat → Prop), e = .returned (.tuple #[v', .int .i64 tok']) ∧ OkK ns tok' ∧ NmK ns ∧ tok ≤ tok' ∧ tok' ≤ tok + 4 ∧ SH Non (fun b => F b ∨ K b) w w' [.R FU' v' raws', .I FL' (LksA FL' raws' ns)] := by
  have hml := hm.lt
  have H := SH.argFI ((SH.start (U := Non) (G := fun b => F b ∨ K b) w).argF hv (fun b h => .inl h)) hml lks_st (fun b hb => hb.2) (fun b hb => .inr hb.1)
  have hsh := hok.short
  have hl4 := hok.len
  have hrl : raws.length = ms.length := All2.len hm
  obtain ⟨a1, a2, a3⟩ := a
  have ha1 := a1.toNat_lt
  have ha2 := a2.toNat_lt
  have ha3 := a3.toNat_lt
  have hns := (nameOf_ok (a2.toNat : Int) (by omega)).1
  refine calls_of_CW Try.func43 rfl Try.ntmps43 (Nat.le_of_ble_eq_true rfl) ?_
  simp only [argE, argFrom, Nat.reduceAdd]
  refine CW.seq (fun K1 h1 => ?_)
  refine CW.region ?_
  refine s_box H rfl (by simp only [upd_get, ev, Nat.reduceEqDiff, ↓reduceIte] <;> rfl) rfl ?_
  clear H
  intro b0_0 w0_0 H
  try dsimp only [replC, List.cons_append, List.nil_append, List.append_nil, agg, cellsL, Value.cells, List.toList_toArray, List.set_cons_zero, List.set_cons_succ, spliceL, List.take_succ_cons, List.take_zero, List.drop_succ_cons, List.drop_zero, List.length_cons, List.length_nil, Nat.reduceAdd, Row.cells, Gr.L, Lk.L, Act8.L] at H
  refine r_assign rfl ?_
  refine r_assign rfl ?_
  refine LW.nil ?_
  refine thenE_norm (h1 _ _ ?_); clear h1; try clear K1
  refine CW.seq (fun K2 h2 => ?_)
  refine CW.drawP [2] [] H (by dsimp only [pickC, nthC] <;> rfl) (by repeat first | exact List.Sublist.refl _ | exact List.nil_sublist _ | apply List.Sublist.cons_cons | apply List.Sublist.cons) (by kernel_rfl) rfl ?_
  clear H
  intro w1d H
  refine DL.take (i := 0) [] rfl (by kernel_rfl) (by kernel_rfl) (by kernel_rfl) (by kernel_rfl) rfl rfl (fun u H => x_fieldAddrO Try.underlying65 rfl Try.sizeOf5 (by decide) (show _ = 1 from rfl) rfl) (SH.sub H (by repeat first | exact List.Sublist.refl _ | exact List.nil_sublist _ | apply List.Sublist.cons_cons | apply List.Sublist.cons)) ?_
  refine DL.take (i := 1) [] rfl (by kernel_rfl) (by kernel_rfl) (by kernel_rfl) (by kernel_rfl) rfl rfl (fun u H => x_load Try.isAgg5 rfl (by first | exact SH.cellB H (by (repeat first | exact At.here | apply At.there); done) (by rfl) | assumption)) (SH.sub H (by repeat first | exact List.Sublist.refl _ | exact List.nil_sublist _ | apply List.Sublist.cons_cons | apply List.Sublist.cons)) ?_
  refine DL.take (i := 3) [] rfl (by kernel_rfl) (by kernel_rfl) (by kernel_rfl) (by kernel_rfl) rfl rfl (fun u H => x_fieldAddrO Try.underlying65 rfl Try.sizeOf5 (by decide) (show _ = 2 from rfl) rfl) (SH.sub H (by repeat first | exact List.Sublist.refl _ | exact List.nil_sublist _ | apply List.Sublist.cons_cons | apply List.Sublist.cons)) ?_
  refine DL.take (i := 4) [] rfl (by kernel_rfl) (by kernel_rfl) (by kernel_rfl) (by kernel_rfl) rfl rfl (fun u H => x_load Try.isAgg5 rfl (by first | exact SH.cellB H (by (repeat first | exact At.here | apply At.there); done) (by rfl) | assumption)) (SH.sub H (by repeat first | exact List.Sublist.refl _ | exact List.nil_sublist _ | apply List.Sublist.cons_cons | apply List.Sublist.cons)) ?_
  refine DL.take (i := 5) [] rfl (by kernel_rfl) (by kernel_rfl) (by kernel_rfl) (by kernel_rfl) rfl rfl (fun u H => x_convI Try.underlying5 Try.underlying3 rfl (wr_i64 (by omega) (by omega))) (SH.sub H (by repeat first | exact List.Sublist.refl _ | exact List.nil_sublist _ | apply List.Sublist.cons_cons | apply List.Sublist.cons)) ?_
  refine DL.take (i := 6) [] rfl (by kernel_rfl) (by kernel_rfl) (by kernel_rfl) (by kernel_rfl) rfl rfl (fun u H => x_rem rfl rfl (by omega) (by omega) (wr_i64 (by omega) (by omega))) (SH.sub H (by repeat first | exact List.Sublist.refl _ | exact List.nil_sublist _ | apply List.Sublist.cons_cons | apply List.Sublist.cons)) ?_
  refine DL.one (i := 2) (by kernel_rfl) rfl rfl ?_
  refine r_call rfl Try.call29 (by simp only [List.map_cons, List.map_nil, List.map_toArray, List.toList_toArray, upd_get, ev, Nat.reduceEqDiff, ↓reduceIte] <;> rfl) (Named_c _ _ (by omega) (by omega)) ?_
  rintro _ w1_2 ⟨rfl, X⟩
  refine ⟨_, rfl, ?_⟩
  replace H := SH.same H X
  clear X
  refine LW.nil (thenE_norm ⟨fun _ => (SH.sub H (by repeat first | exact List.Sublist.refl _ | exact List.nil_sublist _ | apply List.Sublist.cons_cons | apply List.Sublist.cons)), ?_⟩)
  refine DL.take (i := 7) [] rfl (by kernel_rfl) (by kernel_rfl) (by kernel_rfl) (by kernel_rfl) rfl rfl (fun u H => x_assign ) (SH.sub H (by repeat first | exact List.Sublist.refl _ | exact List.nil_sublist _ | apply List.Sublist.cons_cons | apply List.Sublist.cons)) ?_
  refine DL.take (i := 8) [] rfl (by kernel_rfl) (by kernel_rfl) (by kernel_rfl) (by kernel_rfl) rfl rfl (fun u H => x_assign ) (SH.sub H (by repeat first | exact List.Sublist.refl _ | exact List.nil_sublist _ | apply List.Sublist.cons_cons | apply List.Sublist.cons)) ?_
  refine DL.done (by kernel_rfl) ?_
  refine thenE_norm ?_
  refine cut (K := K2) [0, 1, 5, 8, 9] (fun σ => ?_)
  simp only [setL, keepE, upd_get, ev, Nat.reduceEqDiff, ↓reduceIte]
  refine h2 _ _ ?_; clear h2; try clear K2
  refine CW.seq (fun K3 h3 => ?_)
  refine CW.seq (fun K4 h4 => ?_)
  refine CW.region ?_
  refine r_fieldAddrO rfl Try.underlying65 rfl Try.sizeOf5 (by decide) (show _ = 0 from rfl) rfl ?_
  refine r_load rfl Try.isAgg5 rfl (by first | exact SH.cellB H (by (repeat first | exact At.here | apply At.there); done) (by rfl) | assumption) ?_
  refine r_rem rfl rfl rfl (by omega) (by omega) (wr_u8 (by omega) (by omega)) ?_
  refine LW.nil ?_
  refine thenE_norm (h4 _ _ ?_); clear h4; try clear K4
  refine CW.block ?_
  refine CW.seq (fun K5 h5 => ?_)
  refine CW.seq (fun K6 h6 => ?_)
  refine CW.region ?_
  refine r_eql rfl rfl rfl ?_
  refine r_assign rfl ?_
  refine LW.nil ?_
  refine thenE_norm (h6 _ _ ?_); clear h6; try clear K6
  refine CW.cond rfl (fun hc1 => ?_) (fun hc1 => ?_)
  · try simp only [decide_eq_true_eq, decide_eq_false_iff_not, Bool.and_eq_true, Bool.or_eq_true, Bool.and_eq_false_iff, Bool.or_eq_false_iff, Bool.not_eq_true', Bool.not_eq_false', beq_iff_eq, bne_iff_ne, ne_eq, Decidable.not_not] at hc1
    refine CW.skip ?_
    refine thenE_norm (h5 _ _ ?_); clear h5; try clear K5
    refine CW.condT rfl (by first | rfl | (simp only [decide_eq_true_eq, decide_eq_false_iff_not, Bool.and_eq_true, Bool.or_eq_true, Bool.and_eq_false_iff, Bool.or_eq_false_iff, Bool.not_eq_true', Bool.not_eq_false', beq_iff_eq, bne_iff_ne]; omega) | simp_all) ?_
    refine CW.seq (fun K7 h7 => ?_)
    refine CW.region ?_
    refine r_move rfl ?_
    refine r_move rfl ?_
    refine r_move rfl ?_
    refine r_move rfl ?_
    refine r_fieldAddrO rfl Try.underlying65 rfl Try.sizeOf5 (by decide) (show _ = 0 from rfl) rfl ?_
    refine r_load rfl Try.isAgg5 rfl (by first | exact SH.cellB H (by (repeat first | exact At.here | apply At.there); done) (by rfl) | assumption) ?_
    refine r_rem rfl rfl rfl (by omega) (by omega) (wr_u8 (by omega) (by omega)) ?_
    refine r_eql rfl rfl rfl ?_
    refine r_call rfl Try.call40 (by simp only [List.map_cons, List.map_nil, List.map_toArray, List.toList_toArray, upd_get, ev, Nat.reduceEqDiff, ↓reduceIte] <;> rfl) (TakeLock_c _ _ _ _ _ (SH.rsR H (i := 0) rfl) (SH.propI H (i := 1) rfl) (by omega) hsh hok.up (by omega) t0 (by omega)) ?_
    rintro _ w7_8 ⟨v7_8, raws7_8, g7_8, F7_8, rfl, K⟩
    refine ⟨_, rfl, ?_⟩
    replace H := SH.call H K
    clear K
    try dsimp only [replC, List.cons_append, List.nil_append, List.append_nil] at H
    refine r_move rfl ?_
    refine r_extract rfl (by simp only [upd_get, ev, Nat.reduceEqDiff, ↓reduceIte] <;> rfl) (by simp only [List.getElem?_toArray, List.getElem?_cons_zero, List.getElem?_cons_succ] <;> rfl) ?_
    refine r_extract rfl (by simp only [upd_get, ev, Nat.reduceEqDiff, ↓reduceIte] <;> rfl) (by simp only [List.getElem?_toArray, List.getElem?_cons_zero, List.getElem?_cons_succ] <;> rfl) ?_
    refine r_extract rfl (by simp only [upd_get, ev, Nat.reduceEqDiff, ↓reduceIte] <;> rfl) (by simp only [List.getElem?_toArray, List.getElem?_cons_zero, List.getElem?_cons_succ] <;> rfl) ?_
    refine r_assign rfl ?_
    refine r_assign rfl ?_
    refine r_assign rfl ?_
    refine LW.nil ?_
    refine thenE_norm ?_
    refine cut (K := K7) [0, 1, 10, 12] (fun σ => ?_)
    simp only [setL, keepE, upd_get, ev, Nat.reduceEqDiff, ↓reduceIte]
    refine h7 _ _ ?_; clear h7; try clear K7
    refine CW.seq (fun K8 h8 => ?_)
    refine CW.seq (fun K9 h9 => ?_)
    refine CW.region ?_
    refine r_move rfl ?_
    refine r_eql rfl rfl rfl ?_
    refine LW.nil ?_
    refine thenE_norm (h9 _ _ ?_); clear h9; try clear K9
    refine CW.cond rfl (fun hc3 => ?_) (fun hc3 => ?_)
    · try simp only [decide_eq_true_eq, decide_eq_false_iff_not, Bool.and_eq_true, Bool.or_eq_true, Bool.and_eq_false_iff, Bool.or_eq_false_iff, Bool.not_eq_true', Bool.not_eq_false', beq_iff_eq, bne_iff_ne, ne_eq, Decidable.not_not] at hc3
      refine CW.seq (fun K10 h10 => ?_)
      refine CW.region ?_
      refine r_move rfl ?_
      refine r_move rfl ?_
      refine r_add rfl rfl rfl (wr_i64 (by omega) (by omega)) ?_
      refine r_assign rfl ?_
      refine r_assign rfl ?_
      refine LW.nil ?_
      refine thenE_norm (h10 _ _ ?_); clear h10; try clear K10
      refine CW.ret (thenE_ret (blockE_ret (thenE_ret (ret2 Try.results43 (by simp only [upd_get, ev, Nat.reduceEqDiff, ↓reduceIte]; rfl) (by simp only [upd_get, ev, Nat.reduceEqDiff, ↓reduceIte]; rfl) ?_))))
      have H2 := SH.freezeP (SH.freeze H (i := 3) rfl) (i := 4) rfl lks_st
      have hst := (take_stp hok hns (by omega) t0 (by omega)).1 hc3
      exact ⟨_, _, _, _, _, _, rfl, hst.ok, take_nm hnm (by omega), by omega, by omega, SH.sel H2 [3, 4] (by decide) rfl⟩
    · try simp only [decide_eq_true_eq, decide_eq_false_iff_not, Bool.and_eq_true, Bool.or_eq_true, Bool.and_eq_false_iff, Bool.or_eq_false_iff, Bool.not_eq_true', Bool.not_eq_false', beq_iff_eq, bne_iff_ne, ne_eq, Decidable.not_not] at hc3
      refine CW.skip ?_
      refine thenE_norm (h8 _ _ ?_); clear h8; try clear K8
      refine CW.seq (fun K11 h11 => ?_)
      refine CW.region ?_
      refine r_move rfl ?_
      refine r_eql rfl rfl rfl ?_
      refine LW.nil ?_
      refine thenE_norm (h11 _ _ ?_); clear h11; try clear K11
      refine CW.cond rfl (fun hc4 => ?_) (fun hc4 => ?_)
      · try simp only [decide_eq_true_eq, decide_eq_false_iff_not, Bool.and_eq_true, Bool.or_eq_true, Bool.and_eq_false_iff, Bool.or_eq_false_iff, Bool.not_eq_true', Bool.not_eq_false', beq_iff_eq, bne_iff_ne, ne_eq, Decidable.not_not] at hc4
        refine CW.seq (fun K12 h12 => ?_)
        refine CW.region ?_
        refine r_move rfl ?_
        refine r_move rfl ?_
        refine r_assign rfl ?_
        refine r_assign rfl ?_
        refine LW.nil ?_
        refine thenE_norm ?_
        refine cut (K := K12) [6, 7] (fun σ => ?_)
        simp only [setL, keepE, upd_get, ev, Nat.reduceEqDiff, ↓reduceIte]
        refine h12 _ _ ?_; clear h12; try clear K12
        refine CW.ret (blockE_ret (thenE_ret (ret2 Try.results43 (by simp only [upd_get, ev, Nat.reduceEqDiff, ↓reduceIte]; rfl) (by simp only [upd_get, ev, Nat.reduceEqDiff, ↓reduceIte]; rfl) ?_)))
        have H2 := SH.freezeP (SH.freeze H (i := 3) rfl) (i := 4) rfl lks_st
        have hst := (take_stp hok hns (by omega) t0 (by omega)).2 hc4
        exact ⟨_, _, _, _, _, _, rfl, by have h9 := hst.ok; rw [Int.add_zero] at h9; exact h9, take_nm hnm (by omega), by omega, by omega, SH.sel H2 [3, 4] (by decide) rfl⟩
      · try simp only [decide_eq_true_eq, decide_eq_false_iff_not, Bool.and_eq_true, Bool.or_eq_true, Bool.and_eq_false_iff, Bool.or_eq_false_iff, Bool.not_eq_true', Bool.not_eq_false', beq_iff_eq, bne_iff_ne, ne_eq, Decidable.not_not] at hc4
        refine CW.skip ?_
        refine blockE_norm ?_
        refine thenE_norm (h3 _ _ ?_); clear h3; try clear K3
        refine CW.seq (fun K13 h13 => ?_)
        refine CW.region ?_
        refine r_move rfl ?_
        refine r_move rfl ?_
        refine r_assign rfl ?_
        refine r_assign rfl ?_
        refine LW.nil ?_
        refine thenE_norm ?_
        refine cut (K := K13) [6, 7] (fun σ => ?_)
        simp only [setL, keepE, upd_get, ev, Nat.reduceEqDiff, ↓reduceIte]
        refine h13 _ _ ?_; clear h13; try clear K13
        refine CW.ret (ret2 Try.results43 (by simp only [upd_get, ev, Nat.reduceEqDiff, ↓reduceIte]; rfl) (by simp only [upd_get, ev, Nat.reduceEqDiff, ↓reduceIte]; rfl) ?_)
        exact ⟨_, _, _, _, _, _, rfl, hok, hnm, by omega, by omega, SH.sel H [0, 1] (by decide) rfl⟩
  · try simp only [decide_eq_true_eq, decide_eq_false_iff_not, Bool.and_eq_true, Bool.or_eq_true, Bool.and_eq_false_iff, Bool.or_eq_false_iff, Bool.not_eq_true', Bool.not_eq_false', beq_iff_eq, bne_iff_ne, ne_eq, Decidable.not_not] at hc1
    refine CW.region ?_
    refine r_eql rfl rfl rfl ?_
    refine r_assign rfl ?_
    refine LW.nil ?_
    refine thenE_norm (h5 _ _ ?_); clear h5; try clear K5
    refine CW.cond rfl (fun hc2 => ?_) (fun hc2 => ?_)
    · try simp only [decide_eq_true_eq, decide_eq_false_iff_not, Bool.and_eq_true, Bool.or_eq_true, Bool.and_eq_false_iff, Bool.or_eq_false_iff, Bool.not_eq_true', Bool.not_eq_false', beq_iff_eq, bne_iff_ne, ne_eq, Decidable.not_not] at hc2
      refine CW.seq (fun K14 h14 => ?_)
      refine CW.region ?_
      refine r_move rfl ?_
      refine r_move rfl ?_
      refine r_move rfl ?_
      refine r_move rfl ?_
      refine r_fieldAddrO rfl Try.underlying65 rfl Try.sizeOf5 (by decide) (show _ = 0 from rfl) rfl ?_
      refine r_load rfl Try.isAgg5 rfl (by first | exact SH.cellB H (by (repeat first | exact At.here | apply At.there); done) (by rfl) | assumption) ?_
      refine r_rem rfl rfl rfl (by omega) (by omega) (wr_u8 (by omega) (by omega)) ?_
      refine r_eql rfl rfl rfl ?_
      refine r_call rfl Try.call40 (by simp only [List.map_cons, List.map_nil, List.map_toArray, List.toList_toArray, upd_get, ev, Nat.reduceEqDiff, ↓reduceIte] <;> rfl) (TakeLock_c _ _ _ _ _ (SH.rsR H (i := 0) rfl) (SH.propI H (i := 1) rfl) (by omega) hsh hok.up (by omega) t0 (by omega)) ?_
      rintro _ w7_8 ⟨v7_8, raws7_8, g7_8, F7_8, rfl, K⟩
      refine ⟨_, rfl, ?_⟩
      replace H := SH.call H K
      clear K
      try dsimp only [replC, List.cons_append, List.nil_append, List.append_nil] at H
      refine r_move rfl ?_
      refine r_extract rfl (by simp only [upd_get, ev, Nat.reduceEqDiff, ↓reduceIte] <;> rfl) (by simp only [List.getElem?_toArray, List.getElem?_cons_zero, List.getElem?_cons_succ] <;> rfl) ?_
      refine r_extract rfl (by simp only [upd_get, ev, Nat.reduceEqDiff, ↓reduceIte] <;> rfl) (by simp only [List.getElem?_toArray, List.getElem?_cons_zero, List.getElem?_cons_succ] <;> rfl) ?_
      refine r_extract rfl (by simp only [upd_get, ev, Nat.reduceEqDiff, ↓reduceIte] <;> rfl) (by simp only [List.getElem?_toArray, List.getElem?_cons_zero, List.getElem?_cons_succ] <;> rfl) ?_
      refine r_assign rfl ?_
      refine r_assign rfl ?_
      refine r_assign rfl ?_
      refine LW.nil ?_
      refine thenE_norm ?_
      refine cut (K := K14) [0, 1, 10, 12] (fun σ => ?_)
      simp only [setL, keepE, upd_get, ev, Nat.reduceEqDiff, ↓reduceIte]
      refine h14 _ _ ?_; clear h14; try clear K14
      refine CW.seq (fun K15 h15 => ?_)
      refine CW.seq (fun K16 h16 => ?_)
      refine CW.region ?_
      refine r_move rfl ?_
      refine r_eql rfl rfl rfl ?_
      refine LW.nil ?_
      refine thenE_norm (h16 _ _ ?_); clear h16; try clear K16
      refine CW.cond rfl (fun hc3 => ?_) (fun hc3 => ?_)
      · try simp only [decide_eq_true_eq, decide_eq_false_iff_not, Bool.and_eq_true, Bool.or_eq_true, Bool.and_eq_false_iff, Bool.or_eq_false_iff, Bool.not_eq_true', Bool.not_eq_false', beq_iff_eq, bne_iff_ne, ne_eq, Decidable.not_not] at hc3
        refine CW.seq (fun K17 h17 => ?_)
        refine CW.region ?_
        refine r_move rfl ?_
        refine r_move rfl ?_
        refine r_add rfl rfl rfl (wr_i64 (by omega) (by omega)) ?_
        refine r_assign rfl ?_
        refine r_assign rfl ?_
        refine LW.nil ?_
        refine thenE_norm (h17 _ _ ?_); clear h17; try clear K17
        refine CW.ret (thenE_ret (blockE_ret (thenE_ret (ret2 Try.results43 (by simp only [upd_get, ev, Nat.reduceEqDiff, ↓reduceIte]; rfl) (by simp only [upd_get, ev, Nat.reduceEqDiff, ↓reduceIte]; rfl) ?_))))
        have H2 := SH.freezeP (SH.freeze H (i := 3) rfl) (i := 4) rfl lks_st
        have hst := (take_stp hok hns (by omega) t0 (by omega)).1 hc3
        exact ⟨_, _, _, _, _, _, rfl, hst.ok, take_nm hnm (by omega), by omega, by omega, SH.sel H2 [3, 4] (by decide) rfl⟩
      · try simp only [decide_eq_true_eq, decide_eq_false_iff_not, Bool.and_eq_true, Bool.or_eq_true, Bool.and_eq_false_iff, Bool.or_eq_false_iff, Bool.not_eq_true', Bool.not_eq_false', beq_iff_eq, bne_iff_ne, ne_eq, Decidable.not_not] at hc3
        refine CW.skip ?_
        refine thenE_norm (h15 _ _ ?_); clear h15; try clear K15
        refine CW.seq (fun K18 h18 => ?_)
        refine CW.region ?_
        refine r_move rfl ?_
        refine r_eql rfl rfl rfl ?_
        refine LW.nil ?_
        refine thenE_norm (h18 _ _ ?_); clear h18; try clear K18
        refine CW.cond rfl (fun hc4 => ?_) (fun hc4 => ?_)
        · try simp only [decide_eq_true_eq, decide_eq_false_iff_not, Bool.and_eq_true, Bool.or_eq_true, Bool.and_eq_false_iff, Bool.or_eq_false_iff, Bool.not_eq_true', Bool.not_eq_false', beq_iff_eq, bne_iff_ne, ne_eq, Decidable.not_not] at hc4
          refine CW.seq (fun K19 h19 => ?_)
          refine CW.region ?_
          refine r_move rfl ?_
          refine r_move rfl ?_
          refine r_assign rfl ?_
          refine r_assign rfl ?_
          refine LW.nil ?_
          refine thenE_norm ?_
          refine cut (K := K19) [6, 7] (fun σ => ?_)
          simp only [setL, keepE, upd_get, ev, Nat.reduceEqDiff, ↓reduceIte]
          refine h19 _ _ ?_; clear h19; try clear K19
          refine CW.ret (blockE_ret (thenE_ret (ret2 Try.results43 (by simp only [upd_get, ev, Nat.reduceEqDiff, ↓reduceIte]; rfl) (by simp only [upd_get, ev, Nat.reduceEqDiff, ↓reduceIte]; rfl) ?_)))
          have H2 := SH.freezeP (SH.freeze H (i := 3) rfl) (i := 4) rfl lks_st
          have hst := (take_stp hok hns (by omega) t0 (by omega)).2 hc4
          exact ⟨_, _, _, _, _, _, rfl, by have h9 := hst.ok; rw [Int.add_zero] at h9; exact h9, take_nm hnm (by omega), by omega, by omega, SH.sel H2 [3, 4] (by decide) rfl⟩
        · try simp only [decide_eq_true_eq, decide_eq_false_iff_not, Bool.and_eq_true, Bool.or_eq_true, Bool.and_eq_false_iff, Bool.or_eq_false_iff, Bool.not_eq_true', Bool.not_eq_false', beq_iff_eq, bne_iff_ne, ne_eq, Decidable.not_not] at hc4
          refine CW.skip ?_
          refine blockE_norm ?_
          refine thenE_norm (h3 _ _ ?_); clear h3; try clear K3
          refine CW.seq (fun K20 h20 => ?_)
          refine CW.region ?_
          refine r_move rfl ?_
          refine r_move rfl ?_
          refine r_assign rfl ?_
          refine r_assign rfl ?_
          refine LW.nil ?_
          refine thenE_norm ?_
          refine cut (K := K20) [6, 7] (fun σ => ?_)
          simp only [setL, keepE, upd_get, ev, Nat.reduceEqDiff, ↓reduceIte]
          refine h20 _ _ ?_; clear h20; try clear K20
          refine CW.ret (ret2 Try.results43 (by simp only [upd_get, ev, Nat.reduceEqDiff, ↓reduceIte]; rfl) (by simp only [upd_get, ev, Nat.reduceEqDiff, ↓reduceIte]; rfl) ?_)
          exact ⟨_, _, _, _, _, _, rfl, hok, hnm, by omega, by omega, SH.sel H [0, 1] (by decide) rfl⟩
    · try simp only [decide_eq_true_eq, decide_eq_false_iff_not, Bool.and_eq_true, Bool.or_eq_true, Bool.and_eq_false_iff, Bool.or_eq_false_iff, Bool.not_eq_true', Bool.not_eq_false', beq_iff_eq, bne_iff_ne, ne_eq, Decidable.not_not] at hc2
      refine CW.seq (fun K21 h21 => ?_)
      refine CW.region ?_
      refine r_eql rfl rfl rfl ?_
      refine r_assign rfl ?_
      refine LW.nil ?_
      refine thenE_norm ?_
      refine cut (K := K21) [0, 1, 5, 8, 9, 66] (fun σ => ?_)
      simp only [setL, keepE, upd_get, ev, Nat.reduceEqDiff, ↓reduceIte]
      refine h21 _ _ ?_; clear h21; try clear K21
      refine CW.cond rfl (fun hc5 => ?_) (fun hc5 => ?_)
      · try simp only [decide_eq_true_eq, decide_eq_false_iff_not, Bool.and_eq_true, Bool.or_eq_true, Bool.and_eq_false_iff, Bool.or_eq_false_iff, Bool.not_eq_true', Bool.not_eq_false', beq_iff_eq, bne_iff_ne, ne_eq, Decidable.not_not] at hc5
        refine CW.seq (fun K22 h22 => ?_)
        refine CW.region ?_
        refine r_move rfl ?_
        refine r_move rfl ?_
        refine r_move rfl ?_
        refine r_move rfl ?_
        refine r_call rfl Try.call41 (by simp only [List.map_cons, List.map_nil, List.map_toArray, List.toList_toArray, upd_get, ev, Nat.reduceEqDiff, ↓reduceIte] <;> rfl) (FreeLock_c _ _ _ _ (SH.rsR H (i := 0) rfl) (SH.propI H (i := 1) rfl) (by omega) hsh hok.up hok.nodup t0 (by omega)) ?_
        rintro _ w13_4 ⟨v13_4, raws13_4, g13_4, F13_4, rfl, K⟩
        refine ⟨_, rfl, ?_⟩
        replace H := SH.call H K
        clear K
        try dsimp only [replC, List.cons_append, List.nil_append, List.append_nil] at H
        refine r_move rfl ?_
        refine r_extract rfl (by simp only [upd_get, ev, Nat.reduceEqDiff, ↓reduceIte] <;> rfl) (by simp only [List.getElem?_toArray, List.getElem?_cons_zero, List.getElem?_cons_succ] <;> rfl) ?_
        refine r_extract rfl (by simp only [upd_get, ev, Nat.reduceEqDiff, ↓reduceIte] <;> rfl) (by simp only [List.getElem?_toArray, List.getElem?_cons_zero, List.getElem?_cons_succ] <;> rfl) ?_
        refine r_extract rfl (by simp only [upd_get, ev, Nat.reduceEqDiff, ↓reduceIte] <;> rfl) (by simp only [List.getElem?_toArray, List.getElem?_cons_zero, List.getElem?_cons_succ] <;> rfl) ?_
        refine r_assign rfl ?_
        refine r_assign rfl ?_
        refine r_assign rfl ?_
        refine LW.nil ?_
        refine thenE_norm ?_
        refine cut (K := K22) [0, 1, 13, 14, 15] (fun σ => ?_)
        simp only [setL, keepE, upd_get, ev, Nat.reduceEqDiff, ↓reduceIte]
        refine h22 _ _ ?_; clear h22; try clear K22
        refine CW.seq (fun K23 h23 => ?_)
        refine CW.region ?_
        refine r_move rfl ?_
        refine r_eql rfl rfl rfl ?_
        refine LW.nil ?_
        refine thenE_norm (h23 _ _ ?_); clear h23; try clear K23
        refine CW.cond rfl (fun hc6 => ?_) (fun hc6 => ?_)
        · try simp only [decide_eq_true_eq, decide_eq_false_iff_not, Bool.and_eq_true, Bool.or_eq_true, Bool.and_eq_false_iff, Bool.or_eq_false_iff, Bool.not_eq_true', Bool.not_eq_false', beq_iff_eq, bne_iff_ne, ne_eq, Decidable.not_not] at hc6
          have hst := free_stp (n := nameOf (a2.toNat : Int)) (c := (a3.toNat : Int) % 8) hok t0 (by omega) hc6
          have hg4 := hst.g4
          have hnum := hst.num
          refine CW.seq (fun K24 h24 => ?_)
          refine CW.region ?_
          refine r_move rfl ?_
          refine r_move rfl ?_
          refine r_move rfl ?_
          refine r_add rfl rfl rfl (wr_i64 (by omega) (by omega)) ?_
          refine r_assign rfl ?_
          refine r_assign rfl ?_
          refine LW.nil ?_
          refine thenE_norm ?_
          refine cut (K := K24) [6, 7] (fun σ => ?_)
          simp only [setL, keepE, upd_get, ev, Nat.reduceEqDiff, ↓reduceIte]
          refine h24 _ _ ?_; clear h24; try clear K24
          refine CW.ret (blockE_ret (thenE_ret (ret2 Try.results43 (by simp only [upd_get, ev, Nat.reduceEqDiff, ↓reduceIte]; rfl) (by simp only [upd_get, ev, Nat.reduceEqDiff, ↓reduceIte]; rfl) ?_)))
          have H2 := SH.freezeP (SH.freeze H (i := 3) rfl) (i := 4) rfl lks_st
          exact ⟨_, _, _, _, _, _, rfl, hst.ok, free_nm hnm, by omega, by omega, SH.sel H2 [3, 4] (by decide) rfl⟩
        · try simp only [decide_eq_true_eq, decide_eq_false_iff_not, Bool.and_eq_true, Bool.or_eq_true, Bool.and_eq_false_iff, Bool.or_eq_false_iff, Bool.not_eq_true', Bool.not_eq_false', beq_iff_eq, bne_iff_ne, ne_eq, Decidable.not_not] at hc6
          refine CW.skip ?_
          refine blockE_norm ?_
          refine thenE_norm (h3 _ _ ?_); clear h3; try clear K3
          refine CW.seq (fun K25 h25 => ?_)
          refine CW.region ?_
          refine r_move rfl ?_
          refine r_move rfl ?_
          refine r_assign rfl ?_
          refine r_assign rfl ?_
          refine LW.nil ?_
          refine thenE_norm (h25 _ _ ?_); clear h25; try clear K25
          refine CW.ret (ret2 Try.results43 (by simp only [upd_get, ev, Nat.reduceEqDiff, ↓reduceIte]; rfl) (by simp only [upd_get, ev, Nat.reduceEqDiff, ↓reduceIte]; rfl) ?_)
          exact ⟨_, _, _, _, _, _, rfl, hok, hnm, by omega, by omega, SH.sel H [0, 1] (by decide) rfl⟩
      · try simp only [decide_eq_true_eq, decide_eq_false_iff_not, Bool.and_eq_true, Bool.or_eq_true, Bool.and_eq_false_iff, Bool.or_eq_false_iff, Bool.not_eq_true', Bool.not_eq_false', beq_iff_eq, bne_iff_ne, ne_eq, Decidable.not_not] at hc5
        refine CW.seq (fun K26 h26 => ?_)
        refine CW.region ?_
        refine r_move rfl ?_
        refine r_fieldAddrO rfl Try.underlying65 rfl Try.sizeOf5 (by decide) (show _ = 2 from rfl) rfl ?_
        refine r_load rfl Try.isAgg5 rfl (by first | exact SH.cellB H (by (repeat first | exact At.here | apply At.there); done) (by rfl) | assumption) ?_
        refine r_call rfl Try.call39 (by simp only [List.map_cons, List.map_nil, List.map_toArray, List.toList_toArray, upd_get, ev, Nat.reduceEqDiff, ↓reduceIte] <;> rfl) (clients_c _ _ (by omega) (by omega)) ?_
        rintro _ w3_3 ⟨v3_3, g3_3, rfl, K⟩
        refine ⟨_, rfl, ?_⟩
        replace H := SH.call H K
        clear K
        try dsimp only [replC, List.cons_append, List.nil_append, List.append_nil] at H
        refine r_move rfl ?_
        refine r_call rfl Try.call42 (by simp only [List.map_cons, List.map_nil, List.map_toArray, List.toList_toArray, upd_get, ev, Nat.reduceEqDiff, ↓reduceIte] <;> rfl) (DropLocks_c _ _ (SH.rsR H (i := 0) rfl) (SH.rsO H (i := 3) rfl) (SH.propI H (i := 1) rfl) (by omega) hsh hok.up hok.nodup (by omega) (by omega)) ?_
        rintro _ w3_5 ⟨v3_5, raws3_5, g3_5, F3_5, rfl, K⟩
        refine ⟨_, rfl, ?_⟩
        replace H := SH.call H K
        clear K
        try dsimp only [replC, List.cons_append, List.nil_append, List.append_nil] at H
        have hst := drop_stp (gone := cliN (a3.toNat : Int) 8) hok t0 (by omega)
        have hg4 := hst.g4
        have hnum := hst.num
        refine r_move rfl ?_
        refine r_extract rfl (by simp only [upd_get, ev, Nat.reduceEqDiff, ↓reduceIte] <;> rfl) (by simp only [List.getElem?_toArray, List.getElem?_cons_zero, List.getElem?_cons_succ] <;> rfl) ?_
        refine r_extract rfl (by simp only [upd_get, ev, Nat.reduceEqDiff, ↓reduceIte] <;> rfl) (by simp only [List.getElem?_toArray, List.getElem?_cons_zero, List.getElem?_cons_succ] <;> rfl) ?_
        refine r_assign rfl ?_
        refine r_assign rfl ?_
        refine LW.nil ?_
        refine thenE_norm ?_
        refine cut (K := K26) [1, 16, 17] (fun σ => ?_)
        simp only [setL, keepE, upd_get, ev, Nat.reduceEqDiff, ↓reduceIte]
        refine h26 _ _ ?_; clear h26; try clear K26
        refine CW.seq (fun K27 h27 => ?_)
        refine CW.region ?_
        refine r_move rfl ?_
        refine r_move rfl ?_
        refine r_move rfl ?_
        refine r_add rfl rfl rfl (wr_i64 (by omega) (by omega)) ?_
        refine r_assign rfl ?_
        refine r_assign rfl ?_
        refine LW.nil ?_
        refine thenE_norm (h27 _ _ ?_); clear h27; try clear K27
        refine CW.ret (blockE_ret (thenE_ret (ret2 Try.results43 (by simp only [upd_get, ev, Nat.reduceEqDiff, ↓reduceIte]; rfl) (by simp only [upd_get, ev, Nat.reduceEqDiff, ↓reduceIte]; rfl) ?_)))
        have H2 := SH.freezeP (SH.freeze H (i := 4) rfl) (i := 5) rfl lks_st
        exact ⟨_, _, _, _, _, _, rfl, hst.ok, drop_nm hnm, by omega, by omega, SH.sel H2 [4, 5] (by decide) rfl⟩
set_option maxHeartbeats 8000000 in
theorem Made_c {F : Nat → Prop} {v : Value} {acts : List Act8} (w : World) (hv : Rs F w v acts) :
    Calls Try.prog 28 #[v] w fun e w' => ∃ (v' : Value) (raws : List Lk) (ms : List Lm) (tok : Int) (FU FL : Nat → Prop), e = .returned (.tuple #[v', .int .i64 tok]) ∧ OkK ms tok ∧ NmK ms ∧ 0 ≤ tok ∧ tok ≤ 240 ∧ SH Non Non w w' [.R FU v' raws, .I FL (LksA FL raws ms)] := by
  have H := SH.start (U := Non) (G := Non) w
  have h63 := hv.len63
  refine calls_of_CW Try.func28 rfl Try.ntmps28 (Nat.le_of_ble_eq_true rfl) ?_
  simp only [argE, argFrom, Nat.reduceAdd]
  refine CW.seq (fun K1 h1 => ?_)
  refine CW.region ?_
  refine r_assign rfl ?_
  refine r_assign rfl ?_
  refine LW.nil ?_
  refine thenE_norm (h1 _ _ ?_); clear h1; try clear K1
  refine CW.seq (fun K2 h2 => ?_)
  refine CW.region ?_
  refine r_assign rfl ?_
  refine LW.nil ?_
  refine thenE_norm (h2 _ _ ?_); clear h2; try clear K2
  refine CW.seq (fun K3 h3 => ?_)
  refine CW.region ?_
  refine r_assign rfl ?_
  refine LW.nil ?_
  refine thenE_norm (h3 _ _ ?_); clear h3; try clear K3
  refine CW.seqJ [] [4, 5] (fun vs w' => ∃ (u : Value) (raws : List Lk) (ms : List Lm) (tok : Int) (FU FL : Nat → Prop), vs = [u, .int .i64 tok] ∧ 0 ≤ tok ∧ tok ≤ 240 ∧ OkK ms tok ∧ NmK ms ∧ SH Non Non w w' [.R FU u raws, .I FL (LksA FL raws ms)]) ?_ ?_
  · refine CW.seq (fun K5 h5 => ?_)
    refine CW.region ?_
    refine r_assign rfl ?_
    refine LW.nil ?_
    refine thenE_norm (h5 _ _ ?_); clear h5; try clear K5
    refine CW.block ?_
    refine CW.loopR [0] [4, 5, 6] (fun m vs w' => ∃ (i : Nat) (u : Value) (raws : List Lk) (ms : List Lm) (tok : Int) (FU FL : Nat → Prop), vs = [u, .int .i64 tok, .int .i64 i] ∧ i ≤ acts.length ∧ i ≤ 60 ∧ m = acts.length - i ∧ 0 ≤ tok ∧ tok ≤ 4 * i ∧ OkK ms tok ∧ NmK ms ∧ SH Non Non w w' [.R FU u raws, .I FL (LksA FL raws ms)]) (acts.length) ?_ ?_
    · exact ⟨0, .slice none 0 0, [], [], 0, _, _, rfl, by omega, by omega, by omega, by omega, by omega, OkK.nil 0, NmK.nil, SH.sel (SH.addIN (SH.freeze (H.addO (α := Lk) 53) (i := 0) rfl)) [0, 1] (by decide) rfl⟩
    try clear H
    rintro n1 vs1 wL1 σ ⟨i, u, raws, ms, tok, FU, FL, rfl, hi, hi60, rfl, ht0, ht1, hok, hnm, H⟩
    simp only [setL, keepE, upd_get, ev, Nat.reduceEqDiff, ↓reduceIte]
    refine CW.seq (fun K6 h6 => ?_)
    refine CW.seq (fun K7 h7 => ?_)
    refine CW.region ?_
    refine r_move rfl ?_
    refine r_move rfl ?_
    first
      | refine r_lenV rfl Try.underlying47 (by simp only [upd_get, ev, Nat.reduceEqDiff, ↓reduceIte] <;> rfl) (hv.up0 (SH.ext H)) ?_
      | refine r_len rfl Try.underlying47 rfl ?_
    refine r_lss rfl rfl rfl ?_
    refine r_move rfl ?_
    refine LW.splitB (t := 11) rfl (fun hg4_5 => ?_) (fun hg4_5 => ?_)
    · have hg4_5P := hg4_5
      try simp only [decide_eq_true_eq, decide_eq_false_iff_not, Bool.and_eq_true, Bool.or_eq_true, Bool.and_eq_false_iff, Bool.or_eq_false_iff, Bool.not_eq_true', Bool.not_eq_false', beq_iff_eq, bne_iff_ne] at hg4_5P
      refine LW.want rfl rfl hg4_5 ?_
      refine r_move rfl ?_
      refine LW.want rfl rfl hg4_5 ?_
      refine r_lss rfl rfl rfl ?_
      refine r_pickT rfl rfl hg4_5 ?_
      refine LW.nil ?_
      refine thenE_norm ?_
      refine cut (K := K7) [0, 4, 5, 6, 14] (fun σ => ?_)
      simp only [setL, keepE, upd_get, ev, Nat.reduceEqDiff, ↓reduceIte]
      refine h7 _ _ ?_; clear h7; try clear K7
      refine CW.cond rfl (fun hc1 => ?_) (fun hc1 => ?_)
      · try simp only [decide_eq_true_eq, decide_eq_false_iff_not, Bool.and_eq_true, Bool.or_eq_true, Bool.and_eq_false_iff, Bool.or_eq_false_iff, Bool.not_eq_true', Bool.not_eq_false', beq_iff_eq, bne_iff_ne, ne_eq, Decidable.not_not] at hc1
        refine CW.skip ?_
        refine thenE_norm (h6 _ _ ?_); clear h6; try clear K6
        refine CW.seq (fun K8 h8 => ?_)
        refine CW.block ?_
        obtain ⟨a, ha⟩ := get_of_lt (show i < acts.length by omega)
        obtain ⟨a1, a2, a3⟩ := a
        refine CW.region ?_
        refine r_move rfl ?_
        refine r_move rfl ?_
        refine r_move rfl ?_
        refine r_move rfl ?_
        refine r_indexAddrV rfl Try.underlying47 (by simp only [upd_get, ev, Nat.reduceEqDiff, ↓reduceIte] <;> rfl) rfl (hv.up0 (SH.ext H)) (by exact Try.sizeOf65) (by omega) (by omega) ?_
        refine r_loadA rfl Try.isAgg65 Try.sizeOf65 rfl ((hv.up0 (SH.ext H)).cells0 (x := (⟨a1, a2, a3⟩ : Act8)) ha) rfl ?_
        refine r_call rfl Try.call43 (by simp only [List.map_cons, List.map_nil, List.map_toArray, List.toList_toArray, upd_get, ev, Nat.reduceEqDiff, ↓reduceIte] <;> rfl) (next_c tok ⟨a1, a2, a3⟩ _ (SH.rsR H (i := 0) rfl) (SH.propI H (i := 1) rfl) hok hnm ht0 (by omega)) ?_
        rintro _ w6_6 ⟨v6_6, raws6_6, ns, tok', FU', FL', rfl, hok', hnm', hk1, hk2, K⟩
        refine ⟨_, rfl, ?_⟩
        replace H := SH.callI H (i := 0) (j := 1) rfl rfl K
        clear K
        try dsimp only [replC, List.cons_append, List.nil_append, List.append_nil] at H
        refine r_move rfl ?_
        refine r_extract rfl (by simp only [upd_get, ev, Nat.reduceEqDiff, ↓reduceIte] <;> rfl) (by simp only [List.getElem?_toArray, List.getElem?_cons_zero, List.getElem?_cons_succ] <;> rfl) ?_
        refine r_extract rfl (by simp only [upd_get, ev, Nat.reduceEqDiff, ↓reduceIte] <;> rfl) (by simp only [List.getElem?_toArray, List.getElem?_cons_zero, List.getElem?_cons_succ] <;> rfl) ?_
        refine r_assign rfl ?_
        refine r_assign rfl ?_
        refine LW.nil ?_
        refine blockE_norm ?_
        refine thenE_norm (h8 _ _ ?_); clear h8; try clear K8
        refine CW.region ?_
        refine r_move rfl ?_
        refine r_add rfl rfl rfl (wr_i64 (by omega) (by omega)) ?_
        refine r_assign rfl ?_
        refine LW.nil ?_
        refine thenE_norm ⟨rfl, ?_⟩
        exact ⟨acts.length - (i + 1), by omega, i + 1, _, _, _, _, _, _, rfl, by omega, by omega, rfl, by omega, by omega, hok', hnm', SH.sel H [2, 3] (by decide) rfl⟩
      · try simp only [decide_eq_true_eq, decide_eq_false_iff_not, Bool.and_eq_true, Bool.or_eq_true, Bool.and_eq_false_iff, Bool.or_eq_false_iff, Bool.not_eq_true', Bool.not_eq_false', beq_iff_eq, bne_iff_ne, ne_eq, Decidable.not_not] at hc1
        refine CW.exit (thenE_exit (thenE_exit (blockE_hit ?_)))
        refine thenE_norm ?_
        exact ⟨rfl, u, raws, ms, tok, FU, FL, rfl, ht0, by omega, hok, hnm, H⟩
    · have hg4_5P := hg4_5
      try simp only [decide_eq_true_eq, decide_eq_false_iff_not, Bool.and_eq_true, Bool.or_eq_true, Bool.and_eq_false_iff, Bool.or_eq_false_iff, Bool.not_eq_true', Bool.not_eq_false', beq_iff_eq, bne_iff_ne] at hg4_5P
      refine LW.skip rfl (fun _ e => by cases e; decide) rfl hg4_5 ?_
      refine LW.skip rfl (fun _ e => by cases e; decide) rfl hg4_5 ?_
      refine r_pickF rfl rfl hg4_5 ?_
      refine LW.nil ?_
      refine thenE_norm (h7 _ _ ?_); clear h7; try clear K7
      refine CW.condF rfl (by first | rfl | assumption) ?_
      refine CW.exit (thenE_exit (thenE_exit (blockE_hit ?_)))
      refine thenE_norm ?_
      exact ⟨rfl, u, raws, ms, tok, FU, FL, rfl, ht0, by omega, hok, hnm, H⟩
  try clear H
  rintro vs wJ σ ⟨u, raws, ms, tok, FU, FL, rfl, ht0, ht1, hok, hnm, H⟩
  simp only [setL, keepE, upd_get, ev, Nat.reduceEqDiff, ↓reduceIte]
  refine CW.seq (fun K9 h9 => ?_)
  refine CW.region ?_
  refine r_move rfl ?_
  refine r_move rfl ?_
  refine r_assign rfl ?_
  refine r_assign rfl ?_
  refine LW.nil ?_
  refine thenE_norm ?_
  refine cut (K := K9) [2, 3] (fun σ => ?_)
  simp only [setL, keepE, upd_get, ev, Nat.reduceEqDiff, ↓reduceIte]
  refine h9 _ _ ?_; clear h9; try clear K9
  refine CW.ret (ret2 Try.results28 (by simp only [upd_get, ev, Nat.reduceEqDiff, ↓reduceIte]; rfl) (by simp only [upd_get, ev, Nat.reduceEqDiff, ↓reduceIte]; rfl) ?_)
  exact ⟨_, _, _, _, _, _, rfl, hok, hnm, ht0, ht1, H⟩
end Go.Proofs.Ytaggdlbjgjagbaa
