/-
  A new world; What a world shows: its replicas, what they ran, what clients were told
-/
import Derived.Test.YtgmmbdmdimkfjaaGreatPI35
import Derived.Test.YtgmmbdmdimkfjaaGreatPI05
import Derived.Test.YtgmmbdmdimkfjaaGreatPI34
namespace Go.Proofs.YtgmmbdmdimkfjaaGreat
set_option linter.unusedSimpArgs false
set_option linter.unusedVariables false
set_option maxRecDepth 20000
open Go.V Go.RowKit Go.ChangeShapes Go.WideShapes
theorem ptrs_snoc (ps : List Nat) (p : Nat) : ptrs (ps ++ [p]) = ptrs ps ++ [⟨.pointer (some ⟨p, 0, none⟩)⟩] := by simp [ptrs]
section
variable {P : Program} {N : Fr} {ops : Array Oper} {S : World → Prop} {late : List Nat} {Q : EPost}
/-- Several operations, in any order: an invariant J of what is listed, with how many are left. -/
theorem _root_.Go.V.DL.inv {J : Nat → Array Bool → Env → World → Prop} {fuel : Nat} (hne : ∀ n l ρ w, J (n + 1) l ρ w → Region.ready .any ops l ≠ [])
    (hs : ∀ n l ρ w, J (n + 1) l ρ w → ∀ i ∈ Region.ready .any ops l, ∃ d op ty pos af, ops[i]? = some ⟨d, op, ty, pos, af, none⟩ ∧ LW P N ops [⟨d, op, ty, pos, af, none⟩] (thenE (fun ρ' w' => (late.contains i = false → S w') ∧ J n (l.setIfInBounds i true) ρ' w') (fun _ _ _ => False)) ρ w)
    (h0 : ∀ l ρ w, J 0 l ρ w → DL P N ops S late Q fuel l ρ w) : ∀ n l ρ w, J n l ρ w → DL P N ops S late Q (fuel + n) l ρ w := by
  intro n
  induction n with
  | zero => exact h0
  | succ n ih =>
    intro l ρ w h a ha
    refine wpAnyL_all rfl (hne n l ρ w h) fun i hi => ?_
    obtain ⟨d, op, ty, pos, af, ho, hl⟩ := hs n l ρ w h i hi
    refine LOp.of ho rfl (LW.mono hl fun c ρ' w' hq => ?_) a ha
    cases c with
    | normal => exact ⟨hq.1, ih _ _ _ hq.2⟩
    | _ => exact hq.elim
end
theorem SH.perm {U G : Nat → Prop} {w0 w : World} {L M : List Ch} (H : SH U G w0 w L) (h : L.Perm M) : SH U G w0 w M :=
  ⟨H.ext, fun c hc => H.val.1 c (h.mem_iff.2 hc), (h.pairwise_iff (fun k => Apart.symm k)).1 H.val.2⟩
theorem permHead0 {c : Ch} : ∀ {i : Nat} {L : List Ch}, At L i c → L.Perm (c :: L.eraseIdx i)
  | 0, [], h => by cases h
  | 0, d :: L, h => by cases h; exact List.Perm.refl _
  | i + 1, [], h => by cases h
  | i + 1, d :: L, h => (List.Perm.cons d (permHead0 (i := i) (L := L) h)).trans (List.Perm.swap _ _ _)
theorem permHead {L M : List Ch} {i : Nat} {c : Ch} (h : At L i c) (k : (L.eraseIdx i).Perm M) : L.Perm (c :: M) := (permHead0 h).trans (List.Perm.cons _ k)
def cnt (b : Bool) : Nat := if b then 0 else 1
def ch1 (b : Bool) (c : Ch) : List Ch := if b then [c] else []
def chs (c0 c2 c3 c5 c8 c11 : Ch) (b2 b3 b5 b8 b11 : Bool) : List Ch := c0 :: (ch1 b2 c2 ++ (ch1 b3 c3 ++ (ch1 b5 c5 ++ (ch1 b8 c8 ++ ch1 b11 c11))))
def lst4 (b2 b3 b5 b8 b11 : Bool) : Array Bool := #[true, true, b2, b3, true, b5, true, true, b8, true, true, b11, false, false, false]
def rdy (ops : Array Oper) (b2 b3 b5 b8 b11 : Bool) : Bool := (b3 && !b2) || (b2 && b3 && b5 && b8 && b11) || ((Region.ready .any ops (lst4 b2 b3 b5 b8 b11)).all (fun i => (i == 2 && !b2) || (i == 3 && b2 && !b3) || (i == 5 && !b5) || (i == 8 && !b8) || (i == 11 && !b11)) && !(Region.ready .any ops (lst4 b2 b3 b5 b8 b11)).isEmpty)
section
variable {c0 c2 c3 c5 c8 c11 d : Ch}
theorem chs_2 (b3 b5 b8 b11 : Bool) : (chs c0 d c3 c5 c8 c11 false b3 b5 b8 b11 ++ [c2]).Perm (chs c0 c2 c3 c5 c8 c11 true b3 b5 b8 b11) := by
  cases b3 <;> cases b5 <;> cases b8 <;> cases b11 <;> (simp only [chs, ch1, if_true, if_false, Bool.false_eq_true, List.nil_append, List.cons_append, List.append_nil]; repeat (refine permHead AT ?_; dsimp only [List.eraseIdx_cons_succ, List.eraseIdx_cons_zero])) <;> exact List.Perm.nil
theorem chs_3 (b2 b5 b8 b11 : Bool) : (chs c0 c2 d c5 c8 c11 b2 false b5 b8 b11 ++ [c3]).Perm (chs c0 c2 c3 c5 c8 c11 b2 true b5 b8 b11) := by
  cases b2 <;> cases b5 <;> cases b8 <;> cases b11 <;> (simp only [chs, ch1, if_true, if_false, Bool.false_eq_true, List.nil_append, List.cons_append, List.append_nil]; repeat (refine permHead AT ?_; dsimp only [List.eraseIdx_cons_succ, List.eraseIdx_cons_zero])) <;> exact List.Perm.nil
theorem chs_5 (b2 b3 b8 b11 : Bool) : (chs c0 c2 c3 d c8 c11 b2 b3 false b8 b11 ++ [c5]).Perm (chs c0 c2 c3 c5 c8 c11 b2 b3 true b8 b11) := by
  cases b2 <;> cases b3 <;> cases b8 <;> cases b11 <;> (simp only [chs, ch1, if_true, if_false, Bool.false_eq_true, List.nil_append, List.cons_append, List.append_nil]; repeat (refine permHead AT ?_; dsimp only [List.eraseIdx_cons_succ, List.eraseIdx_cons_zero])) <;> exact List.Perm.nil
theorem chs_8 (b2 b3 b5 b11 : Bool) : (chs c0 c2 c3 c5 d c11 b2 b3 b5 false b11 ++ [c8]).Perm (chs c0 c2 c3 c5 c8 c11 b2 b3 b5 true b11) := by
  cases b2 <;> cases b3 <;> cases b5 <;> cases b11 <;> (simp only [chs, ch1, if_true, if_false, Bool.false_eq_true, List.nil_append, List.cons_append, List.append_nil]; repeat (refine permHead AT ?_; dsimp only [List.eraseIdx_cons_succ, List.eraseIdx_cons_zero])) <;> exact List.Perm.nil
theorem chs_11 (b2 b3 b5 b8 : Bool) : (chs c0 c2 c3 c5 c8 d b2 b3 b5 b8 false ++ [c11]).Perm (chs c0 c2 c3 c5 c8 c11 b2 b3 b5 b8 true) := by
  cases b2 <;> cases b3 <;> cases b5 <;> cases b8 <;> (simp only [chs, ch1, if_true, if_false, Bool.false_eq_true, List.nil_append, List.cons_append, List.append_nil]; repeat (refine permHead AT ?_; dsimp only [List.eraseIdx_cons_succ, List.eraseIdx_cons_zero])) <;> exact List.Perm.nil
end
/-- What there is behind some of the five. -/
def J4 (R C b0 : Nat) (cs : List Value) (ρ0 : Env) (w : World) (n : Nat) (l : Array Bool) (ρ : Env) (u : World) : Prop :=
  ∃ (b2 b3 b5 b8 b11 : Bool) (pc pn k5 k8 k11 : Nat) (Fc FN : Nat → Prop), (b3 = true → b2 = true) ∧ n = cnt b2 + cnt b3 + cnt b5 + cnt b8 + cnt b11 ∧ l = lst4 b2 b3 b5 b8 b11 ∧
    (∀ t, t ≠ 22 → t ≠ 23 → t ≠ 25 → t ≠ 28 → t ≠ 31 → ρ t = ρ0 t) ∧ (b2 = true → ρ 22 = .pointer (some ⟨pc, 0, none⟩)) ∧ (b3 = true → ρ 23 = .pointer (some ⟨pn, 0, none⟩)) ∧ (b5 = true → ρ 25 = .slice (some ⟨k5, 0, none⟩) (R + C) (R + C)) ∧ (b8 = true → ρ 28 = .slice (some ⟨k8, 0, none⟩) R R) ∧ (b11 = true → ρ 31 = .slice (some ⟨k11, 0, none⟩) C C) ∧
    SH Non Any w u (chs (.B b0 24 cs) (.P Fc (ClockA pc (R + C) Fc)) (.P FN (NetA pn [] 0 FN)) (.O 4 (.slice (some ⟨k5, 0, none⟩) (R + C) (R + C)) (List.replicate (R + C) false) (some k5)) (.O 63 (.slice (some ⟨k8, 0, none⟩) R R) (List.replicate R nilS) (some k8)) (.O 74 (.slice (some ⟨k11, 0, none⟩) C C) (List.replicate C nilS) (some k11)) b2 b3 b5 b8 b11)
theorem new4 {N : Fr} {ops : Array Oper} {Q : EPost} {ρ0 : Env} {R C b0 fuel : Nat} {cs : List Value} {w w4 : World} {l : Array Bool} {tys2 tys3 : Array TypeId} {ty2 ty3 ty5 ty8 ty11 : TypeId} {p2 p3 p5 p8 p11 : String} {a2 a3 a5 a8 a11 : Array Edge}
    (o2 : ops[2]? = some ⟨some 22, .call { callee := .value (.func 37), args := #[.tmp 21], argTypes := tys2 }, ty2, p2, a2, none⟩)
    (o3 : ops[3]? = some ⟨some 23, .call { callee := .value (.func 38), args := #[], argTypes := tys3 }, ty3, p3, a3, none⟩)
    (o5 : ops[5]? = some ⟨some 25, .makeSlice 97 (.tmp 24) (.tmp 24), ty5, p5, a5, none⟩)
    (o8 : ops[8]? = some ⟨some 28, .makeSlice 98 (.tmp 27) (.tmp 27), ty8, p8, a8, none⟩)
    (o11 : ops[11]? = some ⟨some 31, .makeSlice 99 (.tmp 30) (.tmp 30), ty11, p11, a11, none⟩)
    (hn : Nat.blt 31 N.n = true) (hr : ∀ b2 b3 b5 b8 b11, rdy ops b2 b3 b5 b8 b11 = true) (hl : l = lst4 false false false false false)
    (h21 : ρ0 21 = .int .i64 (R + C : Nat)) (h24 : ρ0 24 = .int .i64 (R + C : Nat)) (h27 : ρ0 27 = .int .i64 (R : Nat)) (h30 : ρ0 30 = .int .i64 (C : Nat)) (hR : 1 ≤ R ∧ R ≤ 7) (hC : 1 ≤ C ∧ C ≤ 5)
    (H : SH Non Any w w4 [.B b0 24 cs])
    (h : ∀ pc pn k5 k8 k11 Fc FN u, SH Non Any w u [.B b0 24 cs, .P Fc (ClockA pc (R + C) Fc), .P FN (NetA pn [] 0 FN), .O 4 (.slice (some ⟨k5, 0, none⟩) (R + C) (R + C)) (List.replicate (R + C) false) (some k5), .O 63 (.slice (some ⟨k8, 0, none⟩) R R) (List.replicate R nilS) (some k8), .O 74 (.slice (some ⟨k11, 0, none⟩) C C) (List.replicate C nilS) (some k11)] →
      DL Tryz.prog N ops (fun u => SH Non Any w u [.B b0 24 cs]) [] Q fuel (lst4 true true true true true) (upd (upd (upd (upd (upd ρ0 22 (.pointer (some ⟨pc, 0, none⟩))) 23 (.pointer (some ⟨pn, 0, none⟩))) 25 (.slice (some ⟨k5, 0, none⟩) (R + C) (R + C))) 28 (.slice (some ⟨k8, 0, none⟩) R R)) 31 (.slice (some ⟨k11, 0, none⟩) C C)) u) :
    DL Tryz.prog N ops (fun u => SH Non Any w u [.B b0 24 cs]) [] Q (fuel + 5) l ρ0 w4 := by
  have hN : 31 < N.n := Nat.le_of_ble_eq_true hn
  have hd : ∀ d, d ≤ 31 → Nat.blt d N.n = true := fun d hd => Nat.ble_eq_true_of_le (by omega)
  refine DL.inv (J := J4 R C b0 cs ρ0 w) ?_ ?_ ?_ 5 l ρ0 w4 ⟨false, false, false, false, false, 0, 0, 0, 0, 0, Non, Non, fun h => h, rfl, hl, fun _ _ _ _ _ _ => rfl, nofun, nofun, nofun, nofun, nofun, H⟩
  · rintro n l ρ u ⟨b2, b3, b5, b8, b11, pc, pn, k5, k8, k11, Fc, FN, h32, hn, rfl, -⟩ he
    have := hr b2 b3 b5 b8 b11
    unfold rdy at this
    rw [he] at this
    cases b2 <;> cases b3 <;> cases b5 <;> cases b8 <;> cases b11 <;> simp_all [cnt]
  · rintro n l ρ u ⟨b2, b3, b5, b8, b11, pc, pn, k5, k8, k11, Fc, FN, h32, hn, rfl, hρ, e22, e23, e25, e28, e31, H⟩ i hi
    have hb := hr b2 b3 b5 b8 b11
    unfold rdy at hb
    have hS : ∀ {u' : World} {c2 c3 c5 c8 c11 : Ch} {x2 x3 x5 x8 x11 : Bool}, SH Non Any w u' (chs (.B b0 24 cs) c2 c3 c5 c8 c11 x2 x3 x5 x8 x11) → SH Non Any w u' [.B b0 24 cs] := fun h => SH.sub h (List.Sublist.cons_cons _ (List.nil_sublist _))
    have hi5 : (i = 2 ∧ b2 = false) ∨ (i = 3 ∧ b2 = true ∧ b3 = false) ∨ (i = 5 ∧ b5 = false) ∨ (i = 8 ∧ b8 = false) ∨ (i = 11 ∧ b11 = false) := by
      simp only [Bool.or_eq_true, Bool.and_eq_true, Bool.not_eq_true'] at hb
      rcases hb with (hb | hb) | hb
      · rw [h32 hb.1] at hb; simp at hb
      · obtain ⟨⟨⟨⟨rfl, rfl⟩, rfl⟩, rfl⟩, rfl⟩ := hb; simp [cnt] at hn
      · have := List.all_eq_true.1 hb.1 i hi
        simp only [Bool.or_eq_true, Bool.and_eq_true, Bool.not_eq_true', beq_iff_eq] at this
        rcases this with ((((h | h) | h) | h) | h)
        · exact .inl h
        · exact .inr (.inl ⟨h.1.1, h.1.2, h.2⟩)
        · exact .inr (.inr (.inl h))
        · exact .inr (.inr (.inr (.inl h)))
        · exact .inr (.inr (.inr (.inr h)))
    rcases hi5 with ⟨rfl, rfl⟩ | ⟨rfl, rfl, rfl⟩ | ⟨rfl, rfl⟩ | ⟨rfl, rfl⟩ | ⟨rfl, rfl⟩
    · have hb3 : b3 = false := by cases b3 <;> simp_all
      subst hb3
      refine ⟨_, _, _, _, _, o2, ?_⟩
      refine r_call (l := [.int .i64 (R + C : Nat)]) (hd _ (by omega)) Tryz.call37 (by simp only [List.map_cons, List.map_nil, ev]; rw [hρ 21 (by omega) (by omega) (by omega) (by omega) (by omega), h21]) (ClockNew_c u (by omega) (by omega)) ?_
      rintro _ u' ⟨pc', Fc', rfl, K⟩
      refine ⟨_, rfl, LW.nil ?_⟩
      have H2 := SH.perm (SH.call H K) (chs_2 false b5 b8 b11)
      refine ⟨fun _ => hS H2, true, false, b5, b8, b11, pc', pn, k5, k8, k11, Fc', FN, fun h => rfl, by simp only [cnt] at hn ⊢; simp at hn ⊢; omega, rfl, ?_, ?_, ?_, ?_, ?_, ?_, H2⟩
      · intro t h1 h2 h3 h4 h5; rw [upd_get]; simp only [h1, if_false]; exact hρ t h1 h2 h3 h4 h5
      · intro _; simp [upd_get]
      · intro h; simp [upd_get]; exact e23 h
      · intro h; simp [upd_get]; exact e25 h
      · intro h; simp [upd_get]; exact e28 h
      · intro h; simp [upd_get]; exact e31 h
    · refine ⟨_, _, _, _, _, o3, ?_⟩
      refine r_call (l := []) (hd _ (by omega)) Tryz.call38 rfl (NetNew_c u) ?_
      rintro _ u' ⟨pn', FN', rfl, K⟩
      refine ⟨_, rfl, LW.nil ?_⟩
      have H2 := SH.perm (SH.call H K) (chs_3 true b5 b8 b11)
      refine ⟨fun _ => hS H2, true, true, b5, b8, b11, pc, pn', k5, k8, k11, Fc, FN', fun h => rfl, by simp only [cnt] at hn ⊢; simp at hn ⊢; omega, rfl, ?_, ?_, ?_, ?_, ?_, ?_, H2⟩
      · intro t h1 h2 h3 h4 h5; rw [upd_get]; simp only [h2, if_false]; exact hρ t h1 h2 h3 h4 h5
      · intro h; simp [upd_get]; exact e22 rfl
      · intro _; simp [upd_get]
      · intro h; simp [upd_get]; exact e25 h
      · intro h; simp [upd_get]; exact e28 h
      · intro h; simp [upd_get]; exact e31 h
    · refine ⟨_, _, _, _, _, o5, ?_⟩
      refine s_make false H (hd _ (by omega)) Tryz.underlying97 Tryz.type4 rfl rfl rfl rfl rfl (by simp only [ev]; rw [hρ 24 (by omega) (by omega) (by omega) (by omega) (by omega), h24]) (by simp only [ev]; rw [hρ 24 (by omega) (by omega) (by omega) (by omega) (by omega), h24]) rfl (by omega) (by show (1 : Int) * _ ≤ _; omega) (by omega) ?_
      intro k u' H2
      simp only [Int.toNat_natCast] at H2 ⊢
      replace H2 := SH.perm H2 (chs_5 b2 b3 b8 b11)
      refine LW.nil ⟨fun _ => hS H2, b2, b3, true, b8, b11, pc, pn, k, k8, k11, Fc, FN, h32, by simp only [cnt] at hn ⊢; simp at hn ⊢; omega, rfl, ?_, ?_, ?_, ?_, ?_, ?_, H2⟩
      · intro t h1 h2 h3 h4 h5; rw [upd_get]; simp only [h3, if_false]; exact hρ t h1 h2 h3 h4 h5
      · intro h; simp [upd_get]; exact e22 h
      · intro h; simp [upd_get]; exact e23 h
      · intro _; simp [upd_get]
      · intro h; simp [upd_get]; exact e28 h
      · intro h; simp [upd_get]; exact e31 h
    · refine ⟨_, _, _, _, _, o8, ?_⟩
      refine s_make nilS H (hd _ (by omega)) Tryz.underlying98 Tryz.type63 rfl rfl rfl rfl rfl (by simp only [ev]; rw [hρ 27 (by omega) (by omega) (by omega) (by omega) (by omega), h27]) (by simp only [ev]; rw [hρ 27 (by omega) (by omega) (by omega) (by omega) (by omega), h27]) rfl (by omega) (by show (24 : Int) * _ ≤ _; omega) (by omega) ?_
      intro k u' H2
      simp only [Int.toNat_natCast] at H2 ⊢
      replace H2 := SH.perm H2 (chs_8 b2 b3 b5 b11)
      refine LW.nil ⟨fun _ => hS H2, b2, b3, b5, true, b11, pc, pn, k5, k, k11, Fc, FN, h32, by simp only [cnt] at hn ⊢; simp at hn ⊢; omega, rfl, ?_, ?_, ?_, ?_, ?_, ?_, H2⟩
      · intro t h1 h2 h3 h4 h5; rw [upd_get]; simp only [h4, if_false]; exact hρ t h1 h2 h3 h4 h5
      · intro h; simp [upd_get]; exact e22 h
      · intro h; simp [upd_get]; exact e23 h
      · intro h; simp [upd_get]; exact e25 h
      · intro _; simp [upd_get]
      · intro h; simp [upd_get]; exact e31 h
    · refine ⟨_, _, _, _, _, o11, ?_⟩
      refine s_make nilS H (hd _ (by omega)) Tryz.underlying99 Tryz.type74 rfl rfl rfl rfl rfl (by simp only [ev]; rw [hρ 30 (by omega) (by omega) (by omega) (by omega) (by omega), h30]) (by simp only [ev]; rw [hρ 30 (by omega) (by omega) (by omega) (by omega) (by omega), h30]) rfl (by omega) (by show (24 : Int) * _ ≤ _; omega) (by omega) ?_
      intro k u' H2
      simp only [Int.toNat_natCast] at H2 ⊢
      replace H2 := SH.perm H2 (chs_11 b2 b3 b5 b8)
      refine LW.nil ⟨fun _ => hS H2, b2, b3, b5, b8, true, pc, pn, k5, k8, k, Fc, FN, h32, by simp only [cnt] at hn ⊢; simp at hn ⊢; omega, rfl, ?_, ?_, ?_, ?_, ?_, ?_, H2⟩
      · intro t h1 h2 h3 h4 h5; rw [upd_get]; simp only [h5, if_false]; exact hρ t h1 h2 h3 h4 h5
      · intro h; simp [upd_get]; exact e22 h
      · intro h; simp [upd_get]; exact e23 h
      · intro h; simp [upd_get]; exact e25 h
      · intro h; simp [upd_get]; exact e28 h
      · intro _; simp [upd_get]
  · rintro l ρ u ⟨b2, b3, b5, b8, b11, pc, pn, k5, k8, k11, Fc, FN, h32, hn, rfl, hρ, e22, e23, e25, e28, e31, H⟩
    have hb : b2 = true ∧ b3 = true ∧ b5 = true ∧ b8 = true ∧ b11 = true := by
      cases b2 <;> cases b3 <;> cases b5 <;> cases b8 <;> cases b11 <;> first | exact ⟨rfl, rfl, rfl, rfl, rfl⟩ | exact absurd hn (by decide)
    obtain ⟨rfl, rfl, rfl, rfl, rfl⟩ := hb
    have e : ρ = upd (upd (upd (upd (upd ρ0 22 (.pointer (some ⟨pc, 0, none⟩))) 23 (.pointer (some ⟨pn, 0, none⟩))) 25 (.slice (some ⟨k5, 0, none⟩) (R + C) (R + C))) 28 (.slice (some ⟨k8, 0, none⟩) R R)) 31 (.slice (some ⟨k11, 0, none⟩) C C) := by
      funext t
      simp only [upd_get]
      split
      · subst t; exact e31 rfl
      · split
        · subst t; exact e28 rfl
        · split
          · subst t; exact e25 rfl
          · split
            · subst t; exact e23 rfl
            · split
              · subst t; exact e22 rfl
              · exact hρ t (by assumption) (by assumption) (by assumption) (by assumption) (by assumption)
    rw [e]
    exact h pc pn k5 k8 k11 Fc FN u H
set_option maxHeartbeats 16000000 in
theorem WNew_c {R C : Nat} {cf : Nat → Int} (hR : okR R) (hcf : FactsC cf) (hC : cf 0 = C) (hC1 : 1 ≤ C) (hC5 : C ≤ 5) (w : World) : Calls Tryz.prog 8 #[confV R cf] w fun e w' => ∃ p F, e = .returned (.tuple #[.pointer (some ⟨p, 0, none⟩), .int .i64 0]) ∧ SH Non Non w w' [.P F (WorldA R C p 0 0 F)] := by
  have hR7 : 1 ≤ R ∧ R ≤ 7 := by rcases hR with rfl | rfl | rfl | rfl <;> omega
  have H := SH.start (U := Non) (G := Any) w
  have e0 : (cf 0).toNat = C := by omega
  unfold confV
  refine calls_of_CW Tryz.func8 rfl Tryz.ntmps8 (Nat.le_of_ble_eq_true rfl) ?_
  simp only [argE, argFrom, Nat.reduceAdd]
  refine CW.seq fun K1 h1 => zr ?_
  refine s_box H rfl EV rfl ?_
  clear H
  intro b0_0 w0_0 H
  try dsimp only [replC, List.cons_append, List.nil_append, List.append_nil, agg, cellsL, Value.cells, List.toList_toArray, List.set_cons_zero, List.set_cons_succ, spliceL, List.take_succ_cons, List.take_zero, List.drop_succ_cons, List.drop_zero, List.length_cons, List.length_nil, Nat.reduceAdd, Row.cells, Flight.L, Hd.L, Snd.L, Ev.L] at H
  refine zg (zt iA iA) (zn h1 ?_); try clear h1
  refine CW.seq (fun K2 h2 => ?_)
  refine CW.seq fun K3 h3 => zr ?_
  refine zg (zk (r_loadA rfl Tryz.isAgg24 Tryz.sizeOf24 rfl (by first | exact SH.cells H AT) (by rfl))) ?_
  refine r_call rfl Tryz.call36 HS (MayConf_c hR hcf _) ?_
  rintro _ w1_1 ⟨rfl, X⟩
  refine ⟨_, rfl, ?_⟩
  replace H := SH.same H X
  clear X
  refine zg iN (zn h3 ?_); try clear h3
  refine CW.condF rfl (by first | rfl | (simp only [zd]; omega) | simp_all) ?_
  refine CW.skip ?_
  refine thenE_norm (h2 _ _ ?_); clear h2; try clear K2
  refine CW.seq fun K4 h4 => zr ?_
  refine zg (zt (fA 0) (zt iL (zt (fA 1) (zt iL (zt iP iA))))) (zc [1, 4] h4 fun σ => zg zm ?_); try clear h4
  refine CW.seq (fun K5 h5 => ?_)
  refine CW.drawH [] H (List.Sublist.refl _) (by kernel_rfl) rfl ?_
  clear H
  intro w4d H
  refine DL.take (i := 0) [] rfl (by kernel_rfl) (by kernel_rfl) (by kernel_rfl) (by kernel_rfl) rfl rfl (fun u H => x_loadA Tryz.isAgg24 Tryz.sizeOf24 rfl (by first | exact SH.cells H AT) (by rfl)) H ?_
  refine DL.take (i := 1) [] rfl (by kernel_rfl) (by kernel_rfl) (by kernel_rfl) (by kernel_rfl) rfl rfl (fun u H => x_move ) H ?_
  refine DL.take (i := 4) [] rfl (by kernel_rfl) (by kernel_rfl) (by kernel_rfl) (by kernel_rfl) rfl rfl (fun u H => x_move ) H ?_
  refine DL.take (i := 6) [] rfl (by kernel_rfl) (by kernel_rfl) (by kernel_rfl) (by kernel_rfl) rfl rfl (fun u H => x_fieldAddrO Tryz.underlying24 rfl Tryz.sizeOf3 (by decide) (show _ = 0 from rfl) rfl) H ?_
  refine DL.take (i := 7) [] rfl (by kernel_rfl) (by kernel_rfl) (by kernel_rfl) (by kernel_rfl) rfl rfl (fun u H => x_load Tryz.isAgg3 rfl (by first | exact SH.cellB H AT (by rfl) | assumption)) H ?_
  refine DL.take (i := 9) [] rfl (by kernel_rfl) (by kernel_rfl) (by kernel_rfl) (by kernel_rfl) rfl rfl (fun u H => x_fieldAddrO Tryz.underlying24 rfl Tryz.sizeOf3 (by decide) (show _ = 1 from rfl) rfl) H ?_
  refine DL.take (i := 10) [] rfl (by kernel_rfl) (by kernel_rfl) (by kernel_rfl) (by kernel_rfl) rfl rfl (fun u H => x_load Tryz.isAgg3 rfl (by first | exact SH.cellB H AT (by rfl) | assumption)) H ?_
  refine new4 (R := R) (C := C) (fuel := 3) rfl rfl rfl rfl rfl rfl (fun b2 b3 b5 b8 b11 => by cases b2 <;> cases b3 <;> cases b5 <;> cases b8 <;> cases b11 <;> kernel_rfl) (by kernel_rfl) (by rw [show ((R + C : Nat) : Int) = (R : Int) + cf 0 from by omega]; rfl) (by rw [show ((R + C : Nat) : Int) = (R : Int) + cf 0 from by omega]; rfl) rfl (by rw [← hC]; rfl) hR7 ⟨hC1, hC5⟩ H ?_
  clear H
  intro pc pn k5 k8 k11 Fc FN w4 H
  refine DL.take (i := 12) [] rfl (by kernel_rfl) (by kernel_rfl) (by kernel_rfl) (by kernel_rfl) rfl rfl (fun u H => x_buildQ Tryz.underlying104 Tryz.zeroValue104 rfl (pl := [(0, 11), (11, 1), (12, 1), (13, 1), (14, 1), (15, 1), (16, 1), (17, 1), (18, 1), (19, 1)]) (by intro w; simp [go_sem]) (qs := [(0, [.int .i64 R, .int .i64 (cf 0), .int .i64 (cf 1), .int .i64 (cf 2), .int .i64 (cf 3), .int .i64 (cf 4), .int .i64 (cf 5), .int .i64 (cf 6), .int .i64 (cf 7), .int .i64 (cf 8), .int .i64 (cf 9)]), (3, [.pointer (some ⟨pc, 0, none⟩)]), (4, [.pointer (some ⟨pn, 0, none⟩)]), (5, [.slice (some ⟨k5, 0, none⟩) (R + C) (R + C)]), (7, [.slice (some ⟨k8, 0, none⟩) R R]), (8, [.slice (some ⟨k11, 0, none⟩) C C])]) (cs := [.int .i64 R, .int .i64 (cf 0), .int .i64 (cf 1), .int .i64 (cf 2), .int .i64 (cf 3), .int .i64 (cf 4), .int .i64 (cf 5), .int .i64 (cf 6), .int .i64 (cf 7), .int .i64 (cf 8), .int .i64 (cf 9), .slice none 0 0, .slice none 0 0, .pointer (some ⟨pc, 0, none⟩), .pointer (some ⟨pn, 0, none⟩), .slice (some ⟨k5, 0, none⟩) (R + C) (R + C), .int .i64 0, .slice (some ⟨k8, 0, none⟩) R R, .slice (some ⟨k11, 0, none⟩) C C, .slice none 0 0]) ⟨rfl, (by simp only [upd_get, ev, Nat.reduceEqDiff, ↓reduceIte, cellsL, List.toList_toArray] <;> rfl), rfl, cells_one EV rfl, rfl, cells_one EV rfl, rfl, cells_one EV rfl, rfl, cells_one EV rfl, rfl, cells_one EV rfl, trivial⟩ (by kernel_rfl)) (SH.sub H SB) ?_
  refine DL.one (i := 13) (by kernel_rfl) rfl rfl ?_
  refine s_box H rfl EV rfl ?_
  clear H
  intro b4_13 w4_13 H
  try dsimp only [replC, List.cons_append, List.nil_append, List.append_nil, agg, cellsL, Value.cells, List.toList_toArray, List.set_cons_zero, List.set_cons_succ, spliceL, List.take_succ_cons, List.take_zero, List.drop_succ_cons, List.drop_zero, List.length_cons, List.length_nil, Nat.reduceAdd, Row.cells, Flight.L, Hd.L, Snd.L, Ev.L] at H
  refine LW.nil (thenE_norm ⟨fun _ => (SH.sub H SB), ?_⟩)
  refine DL.take (i := 14) [] rfl (by kernel_rfl) (by kernel_rfl) (by kernel_rfl) (by kernel_rfl) rfl rfl (fun u H => x_assign ) (SH.sub H SB) ?_
  refine DL.done (by kernel_rfl) ?_
  refine thenE_norm ?_
  refine cut (K := K5) [1, 5] (fun σ => ?_)
  refine zg zm ?_
  refine h5 _ _ ?_; clear h5; try clear K5
  refine CW.seq (fun K6 h6 => ?_)
  refine CW.seq fun K7 h7 => zr ?_
  refine zg (zt (fA 0) (zt iL iM)) (zn h7 ?_); try clear h7
  refine CW.block ?_
  refine CW.loopR [1, 5, 35] [36] (fun m vs w' => ∃ (vR : Value) (gR : Option Nat) (rs : List Nat) (FR : Nat → Prop), vs = [.int .i64 rs.length] ∧ rs.length ≤ R ∧ m = R - rs.length ∧ SH Non Any w w' [.P FR (Lst (RepQ R) rs FR), .B b0_0 24 [.int .i64 R, .int .i64 (cf 0), .int .i64 (cf 1), .int .i64 (cf 2), .int .i64 (cf 3), .int .i64 (cf 4), .int .i64 (cf 5), .int .i64 (cf 6), .int .i64 (cf 7), .int .i64 (cf 8), .int .i64 (cf 9)], .B b4_13 104 [.int .i64 R, .int .i64 (cf 0), .int .i64 (cf 1), .int .i64 (cf 2), .int .i64 (cf 3), .int .i64 (cf 4), .int .i64 (cf 5), .int .i64 (cf 6), .int .i64 (cf 7), .int .i64 (cf 8), .int .i64 (cf 9), vR, .slice none 0 0, .pointer (some ⟨pc, 0, none⟩), .pointer (some ⟨pn, 0, none⟩), (.slice (some ⟨k5, 0, none⟩) (R + C) (R + C)), .int .i64 0, (.slice (some ⟨k8, 0, none⟩) R R), (.slice (some ⟨k11, 0, none⟩) C C), .slice none 0 0], .O 60 vR (ptrs rs) gR, .P Fc (ClockA pc (R + C) Fc), .P FN (NetA pn [] 0 FN), .O 4 (.slice (some ⟨k5, 0, none⟩) (R + C) (R + C)) (List.replicate (R + C) false) (some k5), .O 63 (.slice (some ⟨k8, 0, none⟩) R R) (List.replicate R nilS) (some k8), .O 74 (.slice (some ⟨k11, 0, none⟩) C C) (List.replicate C nilS) (some k11)]) (R) ?_ ?_
  · exact ⟨_, none, [], Non, rfl, by simp, by simp, SH.sel (SH.addP (SH.addO (α := Sv) H 60) Lst.nil (Lst.st (RepQ.ok R))) [0, 1, 7, 8, 2, 3, 4, 5, 6] (by decide) rfl⟩
  try clear H
  rintro n1 vs1 wL1 σ ⟨vR, gR, rs, FR, rfl, hrs, rfl, H⟩
  refine zg zm ?_
  refine CW.seq fun K8 h8 => zr ?_
  refine zg ilt (zn h8 ?_); try clear h8
  refine CW.seq (fun K9 h9 => ?_)
  refine CW.cond rfl (fun hc2 => ?_) (fun hc2 => ?_)
  · try simp only [zb] at hc2
    refine CW.skip ?_
    refine thenE_norm (h9 _ _ ?_); clear h9; try clear K9
    refine CW.seq (fun K10 h10 => ?_)
    refine CW.block ?_
    refine CW.seq fun K11 h11 => zr ?_
    refine zg (zt iM iA) (zn h11 ?_); try clear h11
    refine CW.seq fun K12 h12 => zr ?_
    refine zg (zt (zk (r_loadA rfl Tryz.isAgg24 Tryz.sizeOf24 rfl (by first | exact SH.cells H AT) (by rfl))) iM) ?_
    refine r_call rfl Tryz.call39 HS (rNew hR (by omega) hcf _) ?_
    rintro _ w8_2 ⟨p8_2, F8_2, rfl, K⟩
    refine ⟨_, rfl, ?_⟩
    replace H := SH.call H K
    clear K
    try dsimp only [replC, List.cons_append, List.nil_append, List.append_nil] at H
    refine zg (zt iM (zt iE (zt iE (zt iA iA)))) (zc [1, 5, 7, 35, 36] h12 fun σ => zg zm ?_); try clear h12
    have hpl := ptrs_len rs
    refine CW.region ?_
    refine zg (zt iM (zt iM (zt iK (zt (fA 11) (zt iL iM))))) ?_
    refine r_buildSlice rfl Tryz.underlying100 Tryz.sizeOf60 Tryz.zeroValue60 rfl rfl rfl BV ?_
    intro b9_6 w9_6 hb9_6 hs9_6 hE9_6 hB9_6
    replace H := SH.call H (SH.fromB hE9_6 hb9_6 hs9_6 hB9_6)
    clear hb9_6 hs9_6 hE9_6 hB9_6
    try dsimp only [replC, List.cons_append, List.nil_append, List.append_nil, agg, cellsL, Value.cells, List.toList_toArray, List.set_cons_zero, List.set_cons_succ, spliceL, List.take_succ_cons, List.take_zero, List.drop_succ_cons, List.drop_zero, List.length_cons, List.length_nil, Nat.reduceAdd, Row.cells, Flight.L, Hd.L, Snd.L, Ev.L] at H
    replace H := SH.row (b := b9_6) (xs := ([⟨.pointer (some ⟨p8_2, 0, none⟩)⟩] : List Sv)) (n := 1) (cap := 1) H AT (by rfl) (by intro x hx; first | rfl | (simp at hx; done) | (simp only [List.mem_cons, List.not_mem_nil, or_false] at hx; rcases hx with rfl <;> first | rfl | exact (by first | rfl | assumption | exact Rs.oneC RS | (simp only [List.all_cons, List.all_nil, Bool.and_true, Bool.and_eq_true, Row.cells, Flight.L, Hd.L, Snd.L, Ev.L]; (repeat' constructor) <;> first | rfl | assumption | exact Rs.oneC RS)))) (by rfl) rfl (by decide)
    try dsimp only [replC, List.cons_append, List.nil_append, List.append_nil, agg, cellsL, Value.cells, List.toList_toArray, List.set_cons_zero, List.set_cons_succ, spliceL, List.take_succ_cons, List.take_zero, List.drop_succ_cons, List.drop_zero, List.length_cons, List.length_nil, Nat.reduceAdd, Row.cells, Flight.L, Hd.L, Snd.L, Ev.L] at H
    refine s_append H rfl Tryz.underlying100 Tryz.underlying100 Tryz.type60 rfl EV EV AT RS (by rfl) (by rfl) (by first | omega | (simp only [Tryz.t60, List.length_append, List.length_cons, List.length_nil, List.length_map, maxLen]; omega) | (simp [Tryz.t60, maxLen]; omega)) (by first | omega | (simp only [Tryz.t60, List.length_append, List.length_cons, List.length_nil, List.length_map, maxLen]; omega) | (simp [Tryz.t60, maxLen]; omega)) ?_
    clear H
    intro v9_7 w9_7 g9_7 H hN9_7
    try dsimp only [replC, List.cons_append, List.nil_append, List.append_nil] at H
    refine zg (zt iK (fA 11)) ?_
    refine s_store H Tryz.sizeOf100 rfl EV (by first | rfl | assumption | exact Rs.oneC RS | (simp only [List.all_cons, List.all_nil, Bool.and_true, Bool.and_eq_true, Row.cells, Flight.L, Hd.L, Snd.L, Ev.L]; (repeat' constructor) <;> first | rfl | assumption | exact Rs.oneC RS)) AT (by first | (simp; done) | decide | omega) ?_
    clear H
    intro w9_10 H
    try dsimp only [replC, List.cons_append, List.nil_append, List.append_nil, agg, cellsL, Value.cells, List.toList_toArray, List.set_cons_zero, List.set_cons_succ, spliceL, List.take_succ_cons, List.take_zero, List.drop_succ_cons, List.drop_zero, List.length_cons, List.length_nil, Nat.reduceAdd, Row.cells, Flight.L, Hd.L, Snd.L, Ev.L] at H
    refine LW.nil ?_
    refine blockE_norm ?_
    refine thenE_norm (h10 _ _ ?_); clear h10; try clear K10
    refine CW.region ?_
    refine zg (zt iP iM) ?_
    refine LW.nil ?_
    refine thenE_norm ⟨rfl, ?_⟩
    rw [← ptrs_snoc] at H
    obtain ⟨FR', H2⟩ := SH.lstSnoc (RepQ.ok R) (SH.sel H [0, 9, 1, 2, 3, 4, 5, 6, 7, 8] (by decide) rfl)
    exact ⟨R - (rs.length + 1), by omega, _, _, rs ++ [p8_2], FR', by rw [List.length_append, Int.natCast_add]; rfl, by simp; omega, by simp, H2⟩
  · try simp only [zb] at hc2
    refine CW.exit (thenE_exit (thenE_exit (blockE_hit ?_)))
    refine thenE_norm (h6 _ _ ?_); clear h6; try clear K6
    refine CW.seq (fun K13 h13 => ?_)
    refine CW.seq fun K14 h14 => zr ?_
    refine zg (zt (fA 1) (zt iL iM)) (zn h14 ?_); try clear h14
    refine CW.block ?_
    refine CW.loopR [1, 5, 57] [58] (fun m vs w' => ∃ (vC : Value) (gC : Option Nat) (cs : List Nat) (FC : Nat → Prop), vs = [.int .i64 cs.length] ∧ cs.length ≤ C ∧ m = C - cs.length ∧ SH Non Any w w' [.P FC (Lst CliQ cs FC), .P FR (Lst (RepQ R) rs FR), .B b0_0 24 [.int .i64 R, .int .i64 (cf 0), .int .i64 (cf 1), .int .i64 (cf 2), .int .i64 (cf 3), .int .i64 (cf 4), .int .i64 (cf 5), .int .i64 (cf 6), .int .i64 (cf 7), .int .i64 (cf 8), .int .i64 (cf 9)], .B b4_13 104 [.int .i64 R, .int .i64 (cf 0), .int .i64 (cf 1), .int .i64 (cf 2), .int .i64 (cf 3), .int .i64 (cf 4), .int .i64 (cf 5), .int .i64 (cf 6), .int .i64 (cf 7), .int .i64 (cf 8), .int .i64 (cf 9), vR, vC, .pointer (some ⟨pc, 0, none⟩), .pointer (some ⟨pn, 0, none⟩), (.slice (some ⟨k5, 0, none⟩) (R + C) (R + C)), .int .i64 0, (.slice (some ⟨k8, 0, none⟩) R R), (.slice (some ⟨k11, 0, none⟩) C C), .slice none 0 0], .O 60 vR (ptrs rs) gR, .O 85 vC (ptrs cs) gC, .P Fc (ClockA pc (R + C) Fc), .P FN (NetA pn [] 0 FN), .O 4 (.slice (some ⟨k5, 0, none⟩) (R + C) (R + C)) (List.replicate (R + C) false) (some k5), .O 63 (.slice (some ⟨k8, 0, none⟩) R R) (List.replicate R nilS) (some k8), .O 74 (.slice (some ⟨k11, 0, none⟩) C C) (List.replicate C nilS) (some k11)]) (C) ?_ ?_
    · exact ⟨_, none, [], Non, rfl, by simp, by simp, SH.sel (SH.addP (SH.addO (α := Sv) H 85) Lst.nil (Lst.st CliQ.ok)) [0, 1, 2, 3, 4, 10, 5, 6, 7, 8, 9] (by decide) rfl⟩
    try clear H
    rintro n2 vs2 wL2 σ ⟨vC, gC, cs, FC, rfl, hcs, rfl, H⟩
    refine zg zm ?_
    refine CW.seq fun K15 h15 => zr ?_
    refine zg ilt (zn h15 ?_); try clear h15
    refine CW.seq (fun K16 h16 => ?_)
    refine CW.cond rfl (fun hc3 => ?_) (fun hc3 => ?_)
    · try simp only [zb] at hc3
      refine CW.skip ?_
      refine thenE_norm (h16 _ _ ?_); clear h16; try clear K16
      refine CW.seq (fun K17 h17 => ?_)
      refine CW.block ?_
      refine CW.seq fun K18 h18 => zr ?_
      refine zg (zt iM iA) (zn h18 ?_); try clear h18
      refine CW.seq fun K19 h19 => zr ?_
      refine zg (zt (zk (r_loadA rfl Tryz.isAgg24 Tryz.sizeOf24 rfl (by first | exact SH.cells H AT) (by rfl))) iM) ?_
      refine r_call rfl Tryz.call40 HS (cNew hR (by omega) hcf (by omega) _) ?_
      rintro _ w14_2 ⟨p14_2, F14_2, rfl, K⟩
      refine ⟨_, rfl, ?_⟩
      replace H := SH.call H K
      clear K
      try dsimp only [replC, List.cons_append, List.nil_append, List.append_nil] at H
      refine zg (zt iM (zt iE (zt iE (zt iA iA)))) (zc [1, 5, 10, 57, 58] h19 fun σ => zg zm ?_); try clear h19
      have hpl2 := ptrs_len cs
      refine CW.region ?_
      refine zg (zt iM (zt iM (zt iK (zt (fA 12) (zt iL iM))))) ?_
      refine r_buildSlice rfl Tryz.underlying101 Tryz.sizeOf85 Tryz.zeroValue85 rfl rfl rfl BV ?_
      intro b15_6 w15_6 hb15_6 hs15_6 hE15_6 hB15_6
      replace H := SH.call H (SH.fromB hE15_6 hb15_6 hs15_6 hB15_6)
      clear hb15_6 hs15_6 hE15_6 hB15_6
      try dsimp only [replC, List.cons_append, List.nil_append, List.append_nil, agg, cellsL, Value.cells, List.toList_toArray, List.set_cons_zero, List.set_cons_succ, spliceL, List.take_succ_cons, List.take_zero, List.drop_succ_cons, List.drop_zero, List.length_cons, List.length_nil, Nat.reduceAdd, Row.cells, Flight.L, Hd.L, Snd.L, Ev.L] at H
      replace H := SH.row (b := b15_6) (xs := ([⟨.pointer (some ⟨p14_2, 0, none⟩)⟩] : List Sv)) (n := 1) (cap := 1) H AT (by rfl) (by intro x hx; first | rfl | (simp at hx; done) | (simp only [List.mem_cons, List.not_mem_nil, or_false] at hx; rcases hx with rfl <;> first | rfl | exact (by first | rfl | assumption | exact Rs.oneC RS | (simp only [List.all_cons, List.all_nil, Bool.and_true, Bool.and_eq_true, Row.cells, Flight.L, Hd.L, Snd.L, Ev.L]; (repeat' constructor) <;> first | rfl | assumption | exact Rs.oneC RS)))) (by rfl) rfl (by decide)
      try dsimp only [replC, List.cons_append, List.nil_append, List.append_nil, agg, cellsL, Value.cells, List.toList_toArray, List.set_cons_zero, List.set_cons_succ, spliceL, List.take_succ_cons, List.take_zero, List.drop_succ_cons, List.drop_zero, List.length_cons, List.length_nil, Nat.reduceAdd, Row.cells, Flight.L, Hd.L, Snd.L, Ev.L] at H
      refine s_append H rfl Tryz.underlying101 Tryz.underlying101 Tryz.type85 rfl EV EV AT RS (by rfl) (by rfl) (by first | omega | (simp only [Tryz.t85, List.length_append, List.length_cons, List.length_nil, List.length_map, maxLen]; omega) | (simp [Tryz.t85, maxLen]; omega)) (by first | omega | (simp only [Tryz.t85, List.length_append, List.length_cons, List.length_nil, List.length_map, maxLen]; omega) | (simp [Tryz.t85, maxLen]; omega)) ?_
      clear H
      intro v15_7 w15_7 g15_7 H hN15_7
      try dsimp only [replC, List.cons_append, List.nil_append, List.append_nil] at H
      refine zg (zt iK (fA 12)) ?_
      refine s_store H Tryz.sizeOf101 rfl EV (by first | rfl | assumption | exact Rs.oneC RS | (simp only [List.all_cons, List.all_nil, Bool.and_true, Bool.and_eq_true, Row.cells, Flight.L, Hd.L, Snd.L, Ev.L]; (repeat' constructor) <;> first | rfl | assumption | exact Rs.oneC RS)) AT (by first | (simp; done) | decide | omega) ?_
      clear H
      intro w15_10 H
      try dsimp only [replC, List.cons_append, List.nil_append, List.append_nil, agg, cellsL, Value.cells, List.toList_toArray, List.set_cons_zero, List.set_cons_succ, spliceL, List.take_succ_cons, List.take_zero, List.drop_succ_cons, List.drop_zero, List.length_cons, List.length_nil, Nat.reduceAdd, Row.cells, Flight.L, Hd.L, Snd.L, Ev.L] at H
      refine LW.nil ?_
      refine blockE_norm ?_
      refine thenE_norm (h17 _ _ ?_); clear h17; try clear K17
      refine CW.region ?_
      refine zg (zt iP iM) ?_
      refine LW.nil ?_
      refine thenE_norm ⟨rfl, ?_⟩
      rw [← ptrs_snoc] at H
      obtain ⟨FC', H2⟩ := SH.lstSnoc CliQ.ok (SH.sel H [0, 11, 1, 2, 3, 4, 5, 6, 7, 8, 9, 10] (by decide) rfl)
      exact ⟨C - (cs.length + 1), by omega, _, _, cs ++ [p14_2], FC', by rw [List.length_append, Int.natCast_add]; rfl, by simp; omega, by simp, H2⟩
    · try simp only [zb] at hc3
      refine CW.exit (thenE_exit (thenE_exit (blockE_hit ?_)))
      refine thenE_norm (h13 _ _ ?_); clear h13; try clear K13
      refine CW.seq fun K20 h20 => zr ?_
      refine zg (zt iM iM) ?_
      refine r_call rfl Tryz.call41 HS (does_c _) ?_
      rintro _ w17_2 ⟨v17_2, g17_2, rfl, K⟩
      refine ⟨_, rfl, ?_⟩
      replace H := SH.call H K
      clear K
      try dsimp only [replC, List.cons_append, List.nil_append, List.append_nil] at H
      refine zg (zt iK (fA 19)) ?_
      refine s_store H Tryz.sizeOf102 rfl EV (by first | rfl | assumption | exact Rs.oneC RS | (simp only [List.all_cons, List.all_nil, Bool.and_true, Bool.and_eq_true, Row.cells, Flight.L, Hd.L, Snd.L, Ev.L]; (repeat' constructor) <;> first | rfl | assumption | exact Rs.oneC RS)) AT (by first | (simp; done) | decide | omega) ?_
      clear H
      intro w17_5 H
      try dsimp only [replC, List.cons_append, List.nil_append, List.append_nil, agg, cellsL, Value.cells, List.toList_toArray, List.set_cons_zero, List.set_cons_succ, spliceL, List.take_succ_cons, List.take_zero, List.drop_succ_cons, List.drop_zero, List.length_cons, List.length_nil, Nat.reduceAdd, Row.cells, Flight.L, Hd.L, Snd.L, Ev.L] at H
      refine LW.nil ?_
      refine thenE_norm (h20 _ _ ?_); clear h20; try clear K20
      refine CW.seq fun K21 h21 => zr ?_
      refine zg (zt iM (zt iA iA)) (zc [2, 3] h21 fun σ => zg zm ?_); try clear h21
      refine CW.ret (ret2 Tryz.results8 EV EV ?_)
      obtain ⟨F', K⟩ := WorldA.mk (R := R) (C := C) (k := 0) (j := 0) ⟨cf, vR, vC, pc, pn, _, 0, _, _, v17_2, rs, cs, gR, gC, FR, FC, Fc, [], 0, FN, _, _, _, _, g17_2⟩ ⟨hR, hcf, hC, hC1, hC5, by show rs.length = R; omega, by show cs.length = C; omega, by show (List.replicate (R + C) false).length = R + C; simp, fun m hm => (by cases hm), by show (0 : Int) ≤ 0; omega, by show (0 : Int) ≤ _; omega, by show (0 : Int) ≤ 0; omega, by show (0 : Int) ≤ _; omega⟩ (SH.sel H [3, 4, 1, 5, 0, 6, 7, 8, 9, 10, 11] (by decide) rfl)
      exact ⟨_, _, rfl, K⟩
end Go.Proofs.YtgmmbdmdimkfjaaGreat
namespace Go.Proofs.YtgmmbdmdimkfjaaGreat
set_option linter.unusedSimpArgs false
set_option linter.unusedVariables false
set_option maxRecDepth 20000
open Go.V Go.RowKit Go.ChangeShapes Go.WideShapes
theorem ran0 (w : World) : Calls Tryz.prog 62 #[.slice none 0 0] w fun e w' => e = .returned (.slice none 0 0) ∧ Ext0 w w' := by
  have H := (SH.start (U := Non) (G := Any) w).addO (α := Sv) 123
  refine calls_of_CW Tryz.func62 rfl Tryz.ntmps62 (Nat.le_of_ble_eq_true rfl) ?_
  simp only [argE, argFrom, Nat.reduceAdd]
  refine CW.seq fun K1 h1 => zr ?_
  refine zg iA (zn h1 ?_); try clear h1
  refine CW.seq (fun K2 h2 => ?_)
  refine CW.seq fun K3 h3 => zr ?_
  refine zg iM ?_
  refine zg (zk (r_eqlN (ao := none) (len := 0) (cap := 0) rfl Tryz.underlying63 (by simp only [upd_get, ev, Nat.reduceEqDiff, ↓reduceIte]) (by simp only [ev]))) (zn h3 ?_); try clear h3
  refine CW.condT rfl (by first | rfl | (simp only [zd]; omega) | simp_all) ?_
  refine CW.seq fun K4 h4 => zr ?_
  refine zg iA (zn h4 ?_); try clear h4
  refine CW.ret (tR (ret1 Tryz.results62 EV ?_))
  exact ⟨rfl, H.ext⟩
theorem said0 (w : World) : Calls Tryz.prog 69 #[.slice none 0 0] w fun e w' => e = .returned (.slice none 0 0) ∧ Ext0 w w' := by
  have H := (SH.start (U := Non) (G := Any) w).addO (α := Sv) 158
  refine calls_of_CW Tryz.func69 rfl Tryz.ntmps69 (Nat.le_of_ble_eq_true rfl) ?_
  simp only [argE, argFrom, Nat.reduceAdd]
  refine CW.seq fun K1 h1 => zr ?_
  refine zg iA (zn h1 ?_); try clear h1
  refine CW.seq (fun K2 h2 => ?_)
  refine CW.seq fun K3 h3 => zr ?_
  refine zg iM ?_
  refine zg (zk (r_eqlN (ao := none) (len := 0) (cap := 0) rfl Tryz.underlying74 (by simp only [upd_get, ev, Nat.reduceEqDiff, ↓reduceIte]) (by simp only [ev]))) (zn h3 ?_); try clear h3
  refine CW.condT rfl (by first | rfl | (simp only [zd]; omega) | simp_all) ?_
  refine CW.seq fun K4 h4 => zr ?_
  refine zg iA (zn h4 ?_); try clear h4
  refine CW.ret (tR (ret1 Tryz.results69 EV ?_))
  exact ⟨rfl, H.ext⟩
theorem replica_c {R C p k j i q : Nat} {F : Nat → Prop} (s : WS) (w : World) (hok : s.Ok R C k j) (hA : ObjA F w (s.L R C p)) (hq : s.rs[i]? = some q) : Calls Tryz.prog 20 #[.pointer (some ⟨p, 0, none⟩), .int .i64 i] w fun e w' => e = .returned (.tuple #[.pointer (some ⟨q, 0, none⟩), .bool true]) ∧ Ext0 w w' := by
  obtain ⟨cf, vR, vC, pc, pn, vS, en, va, vd, vk, rs, cs, gR, gC, FR, FC, Fk, ms, lost, FN, bs, gS, ga, gd, gk⟩ := s
  have H := SH.look hA
  dsimp only [WS.L, WS.cells, List.map_cons, List.map_nil, toImm] at H
  dsimp only at hq
  have hi := lt_of_get hq
  have hpq := ptrs_get hq
  have hpl := ptrs_len rs
  refine calls_of_CW Tryz.func20 rfl Tryz.ntmps20 (Nat.le_of_ble_eq_true rfl) ?_
  simp only [argE, argFrom, Nat.reduceAdd]
  refine CW.seq fun K1 h1 => zr ?_
  refine zg (zt iA iA) (zn h1 ?_); try clear h1
  refine CW.seq (fun K2 h2 => ?_)
  refine CW.seq fun K3 h3 => zr ?_
  refine zg iM ?_
  refine zg (zt (zk (r_eqlP rfl Tryz.underlying28 rfl rfl)) iM) ?_
  refine' LW.grpOr (n := 3) (ts := [0, 1, 12]) (d := 11) (tj := 8) rfl (fun hg1_3 => ?_) (fun hg1_3 => ?_) (fun σ => ?_)
  rotate_left
  · simp only [List.take_succ_cons, List.take_zero]
    have hg1_3P := hg1_3
    try simp only [zd] at hg1_3P
    refine LW.want rfl rfl hg1_3 ?_
    refine zg iM ?_
    refine LW.want rfl rfl hg1_3 ?_
    refine zg ilt ?_
    refine zg (zk (r_pickF rfl rfl hg1_3)) ?_
    refine LW.nil (thenE_norm ⟨rfl, rfl, rfl⟩)
  · simp only [List.take_succ_cons, List.take_zero]
    refine LW.skip rfl (fun _ e => by cases e; decide) rfl hg1_3 ?_
    refine LW.skip rfl (fun _ e => by cases e; decide) rfl hg1_3 ?_
    refine zg (zk (r_pickT rfl rfl hg1_3)) ?_
    refine LW.nil (thenE_norm ⟨rfl, rfl, rfl⟩)
  simp only [setL, keepE, upd_get, ev, Nat.reduceEqDiff, ↓reduceIte]; simp only [List.drop_succ_cons, List.drop_zero]
  refine zg iM ?_
  refine' LW.grpOr (n := 8) (ts := [0, 1]) (d := 20) (tj := 12) rfl (fun hg1_7 => ?_) (fun hg1_7 => ?_) (fun σ => ?_)
  rotate_left
  · simp only [List.take_succ_cons, List.take_zero]
    have hg1_7P := hg1_7
    try simp only [zd] at hg1_7P
    refine LW.want rfl rfl hg1_7 ?_
    refine zg iM ?_
    refine LW.want rfl rfl hg1_7 ?_
    refine zg iM ?_
    refine LW.want rfl rfl hg1_7 ?_
    refine zg iK ?_
    refine LW.want rfl rfl hg1_7 ?_
    refine zg (fA 11) ?_
    refine LW.want rfl rfl hg1_7 ?_
    refine zg iL ?_
    refine LW.want rfl rfl hg1_7 ?_
    refine zg iVV ?_
    refine LW.want rfl rfl hg1_7 ?_
    refine zg ige ?_
    refine zg (zk (r_pickF rfl rfl hg1_7)) ?_
    refine LW.nil (thenE_norm ⟨rfl, rfl, rfl⟩)
  · simp only [List.take_succ_cons, List.take_zero]
    refine LW.skip rfl (fun _ e => by cases e; decide) rfl hg1_7 ?_
    refine LW.skip rfl (fun _ e => by cases e; decide) rfl hg1_7 ?_
    refine LW.skip rfl (fun _ e => by cases e; decide) rfl hg1_7 ?_
    refine LW.skip rfl (fun _ e => by cases e; decide) rfl hg1_7 ?_
    refine LW.skip rfl (fun _ e => by cases e; decide) rfl hg1_7 ?_
    refine LW.skip rfl (fun _ e => by cases e; decide) rfl hg1_7 ?_
    refine LW.skip rfl (fun _ e => by cases e; decide) rfl hg1_7 ?_
    refine zg (zk (r_pickT rfl rfl hg1_7)) ?_
    refine LW.nil (thenE_norm ⟨rfl, rfl, rfl⟩)
  simp only [setL, keepE, upd_get, ev, Nat.reduceEqDiff, ↓reduceIte]; simp only [List.drop_succ_cons, List.drop_zero]
  refine LW.nil ?_
  refine thenE_norm (h3 _ _ ?_); clear h3; try clear K3
  refine CW.condF rfl (by first | rfl | (simp only [zd]; omega) | simp_all) ?_
  refine CW.skip ?_
  refine thenE_norm (h2 _ _ ?_); clear h2; try clear K2
  refine CW.seq fun K4 h4 => zr ?_
  refine zg (zt iM (zt iK (zt (fA 11) (zt iL (zt iM (zt iI (zt iL (zt iA iA)))))))) (zc [4, 5] h4 fun σ => zg zm ?_); try clear h4
  refine CW.ret (ret2 Tryz.results20 EV EV ?_)
  exact ⟨rfl, H.ext⟩
theorem ran_c {R C p k j i : Nat} {F : Nat → Prop} (s : WS) (w : World) (hok : s.Ok R C k j) (hA : ObjA F w (s.L R C p)) (hi : i < R) : Calls Tryz.prog 23 #[.pointer (some ⟨p, 0, none⟩), .int .i64 i] w fun e w' => e = .returned (.slice none 0 0) ∧ Ext0 w w' := by
  obtain ⟨cf, vR, vC, pc, pn, vS, en, va, vd, vk, rs, cs, gR, gC, FR, FC, Fk, ms, lost, FN, bs, gS, ga, gd, gk⟩ := s
  have H := SH.look hA
  dsimp only [WS.L, WS.cells, List.map_cons, List.map_nil, toImm] at H
  have hx : (List.replicate R nilS)[i]? = some nilS := by rw [List.getElem?_replicate, if_pos hi]
  have hl : (List.replicate R nilS).length = R := by simp
  refine calls_of_CW Tryz.func23 rfl Tryz.ntmps23 (Nat.le_of_ble_eq_true rfl) ?_
  simp only [argE, argFrom, Nat.reduceAdd]
  refine CW.seq fun K1 h1 => zr ?_
  refine zg iA (zn h1 ?_); try clear h1
  refine CW.seq (fun K2 h2 => ?_)
  refine CW.seq fun K3 h3 => zr ?_
  refine zg iM ?_
  refine zg (zt (zk (r_eqlP rfl Tryz.underlying28 rfl rfl)) iM) ?_
  refine' LW.grpOr (n := 3) (ts := [0, 1, 13]) (d := 12) (tj := 9) rfl (fun hg1_3 => ?_) (fun hg1_3 => ?_) (fun σ => ?_)
  rotate_left
  · simp only [List.take_succ_cons, List.take_zero]
    have hg1_3P := hg1_3
    try simp only [zd] at hg1_3P
    refine LW.want rfl rfl hg1_3 ?_
    refine zg iM ?_
    refine LW.want rfl rfl hg1_3 ?_
    refine zg ilt ?_
    refine zg (zk (r_pickF rfl rfl hg1_3)) ?_
    refine LW.nil (thenE_norm ⟨rfl, rfl, rfl⟩)
  · simp only [List.take_succ_cons, List.take_zero]
    refine LW.skip rfl (fun _ e => by cases e; decide) rfl hg1_3 ?_
    refine LW.skip rfl (fun _ e => by cases e; decide) rfl hg1_3 ?_
    refine zg (zk (r_pickT rfl rfl hg1_3)) ?_
    refine LW.nil (thenE_norm ⟨rfl, rfl, rfl⟩)
  simp only [setL, keepE, upd_get, ev, Nat.reduceEqDiff, ↓reduceIte]; simp only [List.drop_succ_cons, List.drop_zero]
  refine zg iM ?_
  refine' LW.grpOr (n := 8) (ts := [0, 1]) (d := 21) (tj := 13) rfl (fun hg1_7 => ?_) (fun hg1_7 => ?_) (fun σ => ?_)
  rotate_left
  · simp only [List.take_succ_cons, List.take_zero]
    have hg1_7P := hg1_7
    try simp only [zd] at hg1_7P
    refine LW.want rfl rfl hg1_7 ?_
    refine zg iM ?_
    refine LW.want rfl rfl hg1_7 ?_
    refine zg iM ?_
    refine LW.want rfl rfl hg1_7 ?_
    refine zg iK ?_
    refine LW.want rfl rfl hg1_7 ?_
    refine zg (fA 17) ?_
    refine LW.want rfl rfl hg1_7 ?_
    refine zg iL ?_
    refine LW.want rfl rfl hg1_7 ?_
    refine zg iVV ?_
    refine LW.want rfl rfl hg1_7 ?_
    refine zg ige ?_
    refine zg (zk (r_pickF rfl rfl hg1_7)) ?_
    refine LW.nil (thenE_norm ⟨rfl, rfl, rfl⟩)
  · simp only [List.take_succ_cons, List.take_zero]
    refine LW.skip rfl (fun _ e => by cases e; decide) rfl hg1_7 ?_
    refine LW.skip rfl (fun _ e => by cases e; decide) rfl hg1_7 ?_
    refine LW.skip rfl (fun _ e => by cases e; decide) rfl hg1_7 ?_
    refine LW.skip rfl (fun _ e => by cases e; decide) rfl hg1_7 ?_
    refine LW.skip rfl (fun _ e => by cases e; decide) rfl hg1_7 ?_
    refine LW.skip rfl (fun _ e => by cases e; decide) rfl hg1_7 ?_
    refine LW.skip rfl (fun _ e => by cases e; decide) rfl hg1_7 ?_
    refine zg (zk (r_pickT rfl rfl hg1_7)) ?_
    refine LW.nil (thenE_norm ⟨rfl, rfl, rfl⟩)
  simp only [setL, keepE, upd_get, ev, Nat.reduceEqDiff, ↓reduceIte]; simp only [List.drop_succ_cons, List.drop_zero]
  refine LW.nil ?_
  refine thenE_norm (h3 _ _ ?_); clear h3; try clear K3
  refine CW.condF rfl (by first | rfl | (simp only [zd]; omega) | simp_all) ?_
  refine CW.skip ?_
  refine thenE_norm (h2 _ _ ?_); clear h2; try clear K2
  refine CW.seq fun K4 h4 => zr ?_
  refine zg (zt iM (zt iK (zt (fA 17) (zt iL (zt iM (zt iI iL)))))) ?_
  refine r_call rfl Tryz.call62 HS (ran0 _) ?_
  rintro _ w3_7 ⟨rfl, X⟩
  refine ⟨_, rfl, ?_⟩
  replace H := SH.same H X
  clear X
  refine zg iA (zc [5] h4 fun σ => zg zm ?_); try clear h4
  refine CW.seq (fun K5 h5 => ?_)
  refine CW.seq fun K6 h6 => zr ?_
  refine zg (zt iM (zt iVV iM)) (zn h6 ?_); try clear h6
  refine CW.block ?_
  refine CW.loopR [5, 31] [32] (fun m vs w' => vs = [.int .i64 0] ∧ Ext0 w w') (0) ?_ ?_
  · exact ⟨rfl, H.ext⟩
  try clear H
  rintro n1 vs1 wL1 σ ⟨rfl, X⟩
  refine zg zm ?_
  refine CW.seq fun K7 h7 => zr ?_
  refine zg ilt (zn h7 ?_); try clear h7
  refine CW.seq (fun K8 h8 => ?_)
  refine CW.condF rfl (by first | rfl | (simp only [zd]; omega) | simp_all) ?_
  refine CW.exit (thenE_exit (thenE_exit (blockE_hit ?_)))
  refine thenE_norm (h5 _ _ ?_); clear h5; try clear K5
  refine CW.seq fun K9 h9 => zr ?_
  refine zg (zt iM iA) (zn h9 ?_); try clear h9
  refine CW.ret (ret1 Tryz.results23 EV ?_)
  exact ⟨rfl, X⟩
theorem said_c {R C p k j i : Nat} {F : Nat → Prop} (s : WS) (w : World) (hok : s.Ok R C k j) (hA : ObjA F w (s.L R C p)) (hi : i < C) : Calls Tryz.prog 27 #[.pointer (some ⟨p, 0, none⟩), .int .i64 i] w fun e w' => e = .returned (.slice none 0 0) ∧ Ext0 w w' := by
  obtain ⟨cf, vR, vC, pc, pn, vS, en, va, vd, vk, rs, cs, gR, gC, FR, FC, Fk, ms, lost, FN, bs, gS, ga, gd, gk⟩ := s
  have H := SH.look hA
  dsimp only [WS.L, WS.cells, List.map_cons, List.map_nil, toImm] at H
  have hx : (List.replicate C nilS)[i]? = some nilS := by rw [List.getElem?_replicate, if_pos hi]
  have hl : (List.replicate C nilS).length = C := by simp
  refine calls_of_CW Tryz.func27 rfl Tryz.ntmps27 (Nat.le_of_ble_eq_true rfl) ?_
  simp only [argE, argFrom, Nat.reduceAdd]
  refine CW.seq fun K1 h1 => zr ?_
  refine zg iA (zn h1 ?_); try clear h1
  refine CW.seq (fun K2 h2 => ?_)
  refine CW.seq fun K3 h3 => zr ?_
  refine zg iM ?_
  refine zg (zt (zk (r_eqlP rfl Tryz.underlying28 rfl rfl)) iM) ?_
  refine' LW.grpOr (n := 3) (ts := [0, 1, 13]) (d := 12) (tj := 9) rfl (fun hg1_3 => ?_) (fun hg1_3 => ?_) (fun σ => ?_)
  rotate_left
  · simp only [List.take_succ_cons, List.take_zero]
    have hg1_3P := hg1_3
    try simp only [zd] at hg1_3P
    refine LW.want rfl rfl hg1_3 ?_
    refine zg iM ?_
    refine LW.want rfl rfl hg1_3 ?_
    refine zg ilt ?_
    refine zg (zk (r_pickF rfl rfl hg1_3)) ?_
    refine LW.nil (thenE_norm ⟨rfl, rfl, rfl⟩)
  · simp only [List.take_succ_cons, List.take_zero]
    refine LW.skip rfl (fun _ e => by cases e; decide) rfl hg1_3 ?_
    refine LW.skip rfl (fun _ e => by cases e; decide) rfl hg1_3 ?_
    refine zg (zk (r_pickT rfl rfl hg1_3)) ?_
    refine LW.nil (thenE_norm ⟨rfl, rfl, rfl⟩)
  simp only [setL, keepE, upd_get, ev, Nat.reduceEqDiff, ↓reduceIte]; simp only [List.drop_succ_cons, List.drop_zero]
  refine zg iM ?_
  refine' LW.grpOr (n := 8) (ts := [0, 1]) (d := 21) (tj := 13) rfl (fun hg1_7 => ?_) (fun hg1_7 => ?_) (fun σ => ?_)
  rotate_left
  · simp only [List.take_succ_cons, List.take_zero]
    have hg1_7P := hg1_7
    try simp only [zd] at hg1_7P
    refine LW.want rfl rfl hg1_7 ?_
    refine zg iM ?_
    refine LW.want rfl rfl hg1_7 ?_
    refine zg iM ?_
    refine LW.want rfl rfl hg1_7 ?_
    refine zg iK ?_
    refine LW.want rfl rfl hg1_7 ?_
    refine zg (fA 18) ?_
    refine LW.want rfl rfl hg1_7 ?_
    refine zg iL ?_
    refine LW.want rfl rfl hg1_7 ?_
    refine zg iVV ?_
    refine LW.want rfl rfl hg1_7 ?_
    refine zg ige ?_
    refine zg (zk (r_pickF rfl rfl hg1_7)) ?_
    refine LW.nil (thenE_norm ⟨rfl, rfl, rfl⟩)
  · simp only [List.take_succ_cons, List.take_zero]
    refine LW.skip rfl (fun _ e => by cases e; decide) rfl hg1_7 ?_
    refine LW.skip rfl (fun _ e => by cases e; decide) rfl hg1_7 ?_
    refine LW.skip rfl (fun _ e => by cases e; decide) rfl hg1_7 ?_
    refine LW.skip rfl (fun _ e => by cases e; decide) rfl hg1_7 ?_
    refine LW.skip rfl (fun _ e => by cases e; decide) rfl hg1_7 ?_
    refine LW.skip rfl (fun _ e => by cases e; decide) rfl hg1_7 ?_
    refine LW.skip rfl (fun _ e => by cases e; decide) rfl hg1_7 ?_
    refine zg (zk (r_pickT rfl rfl hg1_7)) ?_
    refine LW.nil (thenE_norm ⟨rfl, rfl, rfl⟩)
  simp only [setL, keepE, upd_get, ev, Nat.reduceEqDiff, ↓reduceIte]; simp only [List.drop_succ_cons, List.drop_zero]
  refine LW.nil ?_
  refine thenE_norm (h3 _ _ ?_); clear h3; try clear K3
  refine CW.condF rfl (by first | rfl | (simp only [zd]; omega) | simp_all) ?_
  refine CW.skip ?_
  refine thenE_norm (h2 _ _ ?_); clear h2; try clear K2
  refine CW.seq fun K4 h4 => zr ?_
  refine zg (zt iM (zt iK (zt (fA 18) (zt iL (zt iM (zt iI iL)))))) ?_
  refine r_call rfl Tryz.call69 HS (said0 _) ?_
  rintro _ w3_7 ⟨rfl, X⟩
  refine ⟨_, rfl, ?_⟩
  replace H := SH.same H X
  clear X
  refine zg iA (zc [5] h4 fun σ => zg zm ?_); try clear h4
  refine CW.seq (fun K5 h5 => ?_)
  refine CW.seq fun K6 h6 => zr ?_
  refine zg (zt iM (zt iVV iM)) (zn h6 ?_); try clear h6
  refine CW.block ?_
  refine CW.loopR [5, 31] [32] (fun m vs w' => vs = [.int .i64 0] ∧ Ext0 w w') (0) ?_ ?_
  · exact ⟨rfl, H.ext⟩
  try clear H
  rintro n1 vs1 wL1 σ ⟨rfl, X⟩
  refine zg zm ?_
  refine CW.seq fun K7 h7 => zr ?_
  refine zg ilt (zn h7 ?_); try clear h7
  refine CW.seq (fun K8 h8 => ?_)
  refine CW.condF rfl (by first | rfl | (simp only [zd]; omega) | simp_all) ?_
  refine CW.exit (thenE_exit (thenE_exit (blockE_hit ?_)))
  refine thenE_norm (h5 _ _ ?_); clear h5; try clear K5
  refine CW.seq fun K9 h9 => zr ?_
  refine zg (zt iM iA) (zn h9 ?_); try clear h9
  refine CW.ret (ret1 Tryz.results27 EV ?_)
  exact ⟨rfl, X⟩
end Go.Proofs.YtgmmbdmdimkfjaaGreat
