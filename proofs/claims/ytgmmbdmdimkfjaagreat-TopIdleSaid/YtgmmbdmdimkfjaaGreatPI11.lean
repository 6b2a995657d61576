/-
  A region that draws its order, evaluated by a plan: what is quiet first, what looks early, what writes in every order that may come. No statement of the claim stands here: these are rules, whatever the program; Code and calls, evaluated by fuel; what is answered so holds of the program. No statement of the claim stands here: these are rules, whatever the program; Evaluation in pieces: what no longer counts is forgotten; calls that were evaluated before are looked up. No statement of the claim stands here: these are rules, whatever the program
-/
import Derived.Test.YtgmmbdmdimkfjaaGreatPI10
import Derived.Test.YtgmmbdmdimkfjaaGreatPI05
namespace Go.V
set_option linter.unusedSimpArgs false
set_option linter.unusedVariables false
open Go.RowKit
/-- In which order a region's operations are gone through: i first, those of B wait for it; or i, or one of r. -/
inductive Plan where
  | done
  | take (i : Nat) (B : List Nat) (p : Plan)
  | alt (i off : Nat) (p r : Plan)
def altsOf : Plan → List Nat
  | .alt i _ _ r => i :: altsOf r
  | _ => []
def plen : Plan → Nat
  | .done => 0
  | .take _ _ p => plen p + 1
  | .alt _ _ p r => max (plen p + 1) (plen r)
/-- The plan fits the region. -/
def pOK (ops : Array Oper) : Bool → Array Bool → Plan → Bool
  | fl, listed, .done => fl || (Region.ready .any ops listed).isEmpty
  | fl, listed, .take i B p => !fl && (Region.free .any ops listed i && ((Region.ready .any ops listed).contains i && (closedB ops listed B i && pOK ops false (listed.setIfInBounds i true) p)))
  | fl, listed, .alt i _ p r => (fl || nsEq (Region.ready .any ops listed) (i :: altsOf r)) && (pOK ops false (listed.setIfInBounds i true) p && pOK ops true listed r)
/-- What was looked at early: by which operation, on which slots, and what came. -/
structure AOb where
  B : List Nat
  op : Oper
  e : AEnv
  a : AV
def keepA (i : Nat) (obs : List AOb) : List AOb := obs.filter fun ob => !memN i ob.B
def recheck (P : Program) (S : AS) : List AOb → Bool
  | [] => true
  | ob :: r => match readD ob.op.op P ob.e S with
    | some a => sure ob.a && (avEq a ob.a && recheck P S r)
    | none => false
def isDone : Plan → Bool
  | .done => true
  | _ => false
def anyLe (v : AEnv × AS) : List (AEnv × AS) → Bool
  | [] => false
  | u :: r => (aeLe u.1 v.1 u.1 && asEq u.2 v.2) || anyLe v r
/-- What the other order leaves is among it. -/
def allLe (us : List (AEnv × AS)) : List (AEnv × AS) → Bool
  | [] => true
  | v :: r => anyLe v us && allLe us r
def same2 (x y : Option (List (AEnv × AS))) : Option (List (AEnv × AS)) := match x, y with
  | some us, some vs => bif allLe us vs then some us else none
  | _, _ => none
/-- base: where the region's names begin, if some operations may come in several orders. -/
def wide (base : Option Nat) (i : Nat) (S : AS) : AS := match base with
  | none => S
  | some b => S.step (Nat.add b i)
/-- .. and where they end. -/
def back (base : Option Nat) (k : Nat) (S : AS) : AS := match base with
  | none => S
  | some _ => bif Nat.ble k S.next then S else S.step k
def noPan (b : Bool) (u : AEnv × AS) : Bool := match b with
  | false => true
  | true => match panOf u.1 with
    | some _ => false
    | none => true
def planA (C : Caller) (P : Program) (ops : Array Oper) (base : Option Nat) : Plan → AEnv → AS → List AOb → Option (List (AEnv × AS))
  | .done, e, S, _ => some [(e, S)]
  | .take i B p, e, S, obs => match ops[i]? with
    | none => none
    | some o => match guardA ops S.facts e o with
      | none => none
      | some gs => bindL (fun g => match g.2 with
        | false => planA C P ops base p (aputo g.1 o.dst .und) S obs
        | true => bindL (fun e1 => match quietD o.op P e1 with
          | some r => planA C P ops base p (aputo e1 o.dst r) S obs
          | none => match readD o.op P e1 S with
            | some r => planA C P ops base p (aputo e1 o.dst r) S (⟨B, o, e1, r⟩ :: obs)
            | none => none) (forkD o.op S.facts g.1)) gs
  | .alt i off p r, e, S, obs =>
    match (match ops[i]? with
      | none => none
      | some o => match guardA ops S.facts e o with
        | none => none
        | some gs => bindL (fun g => match g.2 with
          | false => planA C P ops base p (aputo g.1 o.dst .und) S (keepA i obs)
          | true => match stepD o.op C P g.1 (wide base off S) o.dst with
            | some us => bindL (fun u => bif noPan (mayPan o.op) u && recheck P u.2 (keepA i obs) then planA C P ops base p u.1 (back base S.next u.2) (keepA i obs) else none) us
            | none => none) gs) with
    | none => none
    | some out => bif isDone r then some out else same2 (some out) (planA C P ops base r e S obs)
section
variable {P : Program} {U : Nat → Prop} {w0 : World}
/-- The obligations, seen both ways. -/
def ORel (P : Program) (A : NM) : List AOb → List Ob → Prop
  | [], l => l = []
  | x :: r, l => ∃ y s, l = y :: s ∧ y.1 = x.B ∧ (∃ ρ v, RE A x.e ρ ∧ RV A x.a v ∧ y.2 = fun u => (execOp (ev ρ) x.op).run P u = .ok (.value v) u) ∧ ORel P A r s
theorem ORel.up {A B : NM} (h : A.le B) : ∀ {xs : List AOb} {ys : List Ob}, ORel P A xs ys → ORel P B xs ys
  | [], ys, H => H
  | x :: r, ys, ⟨y, s, h1, h2, ⟨ρ, v, h3, h4, h5⟩, h6⟩ => ⟨y, s, h1, h2, ⟨ρ, v, h3.up h, RV.up h _ _ h4, h5⟩, ORel.up h h6⟩
theorem ORel.keep {A : NM} (i : Nat) : ∀ {xs : List AOb} {ys : List Ob}, ORel P A xs ys → ORel P A (keepA i xs) (keepO i ys)
  | [], ys, H => by cases H; rfl
  | x :: r, ys, ⟨y, s, h1, h2, h3, h6⟩ => by
    subst h1
    have ih := ORel.keep i h6
    unfold keepA keepO at ih ⊢
    rw [List.filter_cons, List.filter_cons, h2]
    split
    · exact ⟨y, _, rfl, h2, h3, ih⟩
    · exact ih
theorem ORel.hold {A : NM} {S : AS} {w : World} (H : RW U w0 A S w) : ∀ {xs : List AOb} {ys : List Ob}, ORel P A xs ys → recheck P S xs = true → hold ys w
  | [], ys, K, h => by cases K; intro ob hb; cases hb
  | x :: r, ys, ⟨y, s, h1, h2, ⟨ρ, v, h3, h4, h5⟩, h6⟩, h => by
    subst h1
    unfold recheck at h
    split at h
    · rename_i a ha
      rw [readD_eq] at ha
      simp only [Bool.and_eq_true] at h
      obtain ⟨hsu, hae, h⟩ := h
      have hae := avEq_ok _ _ hae
      subst hae
      intro ob hb
      rcases List.mem_cons.1 hb with rfl | hb
      · rw [h5]
        obtain ⟨v', k1, k2⟩ := readA_ok h3 H ha
        rw [RV.one _ _ _ hsu k1 h4] at k2
        exact k2
      · exact ORel.hold H h6 h ob hb
    · cases h
theorem anyLe_ok {v : AEnv × AS} : ∀ {us : List (AEnv × AS)}, anyLe v us = true → ∃ u ∈ us, u.2 = v.2 ∧ aeLe u.1 v.1 u.1 = true
  | [], h => by cases h
  | u :: r, h => by
    unfold anyLe at h
    rw [Bool.or_eq_true] at h
    rcases h with h | h
    · rw [Bool.and_eq_true] at h
      exact ⟨u, List.mem_cons_self .., asEq_ok h.2, h.1⟩
    · obtain ⟨u', h1, h2⟩ := anyLe_ok h
      exact ⟨u', List.mem_cons_of_mem _ h1, h2⟩
theorem allLe_ok {us : List (AEnv × AS)} : ∀ {vs : List (AEnv × AS)}, allLe us vs = true → ∀ v ∈ vs, ∃ u ∈ us, u.2 = v.2 ∧ aeLe u.1 v.1 u.1 = true
  | [], _, v, hv => by cases hv
  | z :: r, h, v, hv => by
    unfold allLe at h
    rw [Bool.and_eq_true] at h
    rcases List.mem_cons.1 hv with rfl | hv
    · exact anyLe_ok h.1
    · exact allLe_ok h.2 v hv
theorem same2_ok {x y : Option (List (AEnv × AS))} {z : List (AEnv × AS)} (h : same2 x y = some z) : x = some z ∧ ∃ vs, y = some vs ∧ ∀ v ∈ vs, ∃ u ∈ z, u.2 = v.2 ∧ aeLe u.1 v.1 u.1 = true := by
  unfold same2 at h
  split at h
  · rename_i us vs
    cases hb : allLe us vs with
    | false => rw [hb] at h; cases h
    | true =>
      rw [hb] at h
      cases h
      exact ⟨rfl, vs, rfl, allLe_ok hb⟩
  · cases h
theorem RW.back {A : NM} {S : AS} {w : World} (H : RW U w0 A S w) (b : Option Nat) (k : Nat) : RW U w0 A (back b k S) w := by
  cases b with
  | none => exact H
  | some b =>
    unfold Go.V.back
    cases hb : Nat.ble k S.next with
    | true => exact H
    | false => exact H.step _
theorem RW.wide {A : NM} {S : AS} {w : World} (H : RW U w0 A S w) (b : Option Nat) (i : Nat) : RW U w0 A (wide b i S) w := by
  cases b with
  | none => exact H
  | some b => exact H.step _
theorem plan_ok {C : Caller} {N : Fr} {ops : Array Oper} {base : Option Nat} {Q : EPost} (hC : CallsOK P U w0 C) (hs : Region.noSelect ops = true) (hd : ∀ (i : Nat) (o : Oper), ops[i]? = some o → ∀ x, o.dst = some x → x < N.n) :
    ∀ (p : Plan) (listed : Array Bool) (e : AEnv) (S : AS) (aobs : List AOb) (obs : List Ob) (A : NM) (ρ : Env) (w : World) (k : Nat) (outs : List (AEnv × AS)), RE A e ρ → RW U w0 A S w → ORel P A aobs obs → hold obs w →
      (∀ u ∈ outs, ∀ B ρ' w', A.le B → RE B u.1 ρ' → RW U w0 B u.2 w' → Q .normal ρ' w') → planA C P ops base p e S aobs = some outs →
      (pOK ops false listed p = true → plen p ≤ k → DO P N ops Q k obs listed ρ w) ∧ (pOK ops true listed p = true → plen p ≤ k + 1 → ∀ i ∈ altsOf p, LO P N ops Q k obs listed i ρ w) := by
  intro p
  induction p with
  | done =>
    intro listed e S aobs obs A ρ w k outs K H R hO hQ h
    refine ⟨fun hp _ => ?_, fun _ _ i hi => by cases hi⟩
    cases h
    simp only [pOK, Bool.false_or, List.isEmpty_iff] at hp
    exact DO.done hp (hQ _ (List.mem_singleton.2 rfl) A ρ w (NM.le.refl A) K H)
  | take i B p ih =>
    intro listed e S aobs obs A ρ w k outs K H R hO hQ h
    refine ⟨fun hp hk => ?_, fun _ _ i hi => by cases hi⟩
    simp only [pOK, Bool.not_false, Bool.true_and, Bool.and_eq_true] at hp
    obtain ⟨hf, hr, hcl, hp⟩ := hp
    obtain ⟨k, rfl⟩ : ∃ j, k = j + 1 := ⟨k - 1, by simp only [plen] at hk; omega⟩
    have hk' : plen p ≤ k := by simp only [plen] at hk; omega
    unfold planA at h
    split at h
    · cases h
    · rename_i o ho
      split at h
      · cases h
      · rename_i gs hg
        obtain ⟨⟨e1, b⟩, hg1, K1, hw⟩ := guardA_ok H.facts K hg
        obtain ⟨a, ha, hsub⟩ := bindL_mem h _ hg1
        simp only at ha K1 hw
        cases b with
        | false =>
          refine DO.first (T := fun _ => True) B [] ho hs hf hr (.inl ⟨rfl, fun _ => trivial⟩) (hd i o ho) (.inr ⟨hw, rfl⟩) trivial hO ?_
          exact (ih _ _ _ _ _ A _ w k a K1.putu H R hO (fun u hu => hQ u (hsub _ hu)) ha).1 hp hk'
        | true =>
          simp only at ha
          obtain ⟨e2, he2, K2⟩ := forkD_ok (op := o.op) H.facts K1
          obtain ⟨a2, ha2, hsub2⟩ := bindL_mem ha _ he2
          split at ha2
          · rename_i r hr2
            rw [quietD_eq] at hr2
            obtain ⟨v, h1, h2⟩ := opA_ok K2 hr2
            refine DO.first (T := fun _ => True) (v := v) B [] ho hs hf hr (.inl ⟨rfl, fun _ => trivial⟩) (hd i o ho) (.inl ⟨hw, fun u _ => h2 u⟩) trivial hO ?_
            exact (ih _ _ _ _ _ A _ w k a2 (K2.puto h1) H R hO (fun u hu => hQ u (hsub _ (hsub2 _ hu))) ha2).1 hp hk'
          · split at ha2
            · rename_i r hr2
              rw [readD_eq] at hr2
              obtain ⟨v, h1, h2⟩ := readA_ok K2 H hr2
              refine DO.first (T := fun u => (execOp (ev ρ) o).run P u = .ok (.value v) u) (v := v) B [(B, fun u => (execOp (ev ρ) o).run P u = .ok (.value v) u)] ho hs hf hr (.inr ⟨rfl, hcl⟩) (hd i o ho) (.inl ⟨hw, fun u hu => hu⟩) h2 hO ?_
              refine (ih _ _ _ (⟨B, o, e2, r⟩ :: aobs) ((B, fun (u : World) => (execOp (ev ρ) o).run P u = Result.ok (Next.value v) u) :: obs) A _ w k a2 (K2.puto h1) H ⟨_, _, rfl, rfl, ⟨ρ, v, K2, h1, rfl⟩, R⟩ ?_ (fun u hu => hQ u (hsub _ (hsub2 _ hu))) ha2).1 hp hk'
              intro ob hb
              rcases List.mem_cons.1 hb with rfl | hb
              · exact h2
              · exact hO ob hb
            · cases ha2
  | alt i off p r ihp ihr =>
    intro listed e S aobs obs A ρ w k outs K H R hO hQ h
    unfold planA at h
    split at h
    · cases h
    · rename_i out hout
      have hboth : out = outs ∧ (r ≠ .done → ∃ vs, planA C P ops base r e S aobs = some vs ∧ ∀ v ∈ vs, ∃ u ∈ outs, u.2 = v.2 ∧ aeLe u.1 v.1 u.1 = true) := by
        cases hr : isDone r with
        | true =>
          rw [hr] at h
          cases h
          refine ⟨rfl, fun hn => ?_⟩
          cases r <;> first | exact absurd rfl hn | cases hr
        | false =>
          rw [hr] at h
          have := same2_ok h
          exact ⟨Option.some.inj this.1, fun _ => this.2⟩
      obtain ⟨rfl, hrest⟩ := hboth
      -- the first of them
      have head : ∀ k, pOK ops false (listed.setIfInBounds i true) p = true → plen p ≤ k → LO P N ops Q k obs listed i ρ w := by
        intro k hp hk
        split at hout
        · cases hout
        · rename_i o ho
          split at hout
          · cases hout
          · rename_i gs hg
            obtain ⟨⟨e1, b⟩, hg1, K1, hw⟩ := guardA_ok H.facts K hg
            obtain ⟨a, ha, hsub⟩ := bindL_mem hout _ hg1
            simp only at ha K1 hw
            cases b with
            | false =>
              have hO' : hold (keepO i obs) w := hO.sub (keepO_le i obs)
              exact LO.skip ho hw (hd i o ho) hO' ((ihp _ _ _ _ _ A _ w k a K1.putu H (R.keep i) hO' (fun u hu => hQ u (hsub _ hu)) ha).1 hp hk)
            | true =>
              simp only at ha
              split at ha
              · rename_i us hst
                refine LO.of ho hw (stepA_ok (o := { o with guard := none }) hC (stepD_some (o := { o with guard := none }) hst) rfl (hd i o ho) K1 (H.wide base off) (fun hm u hu a e' hp => by
                  obtain ⟨a2, ha2, _⟩ := bindL_mem ha _ hu
                  have hm' : mayPan o.op = true := hm
                  have : noPan (mayPan o.op) u = false := by rw [hm']; unfold noPan; simp only [hp]
                  rw [this] at ha2
                  cases ha2) fun u hu B ρ' w' h1 h2 h3 => LW.done ?_)
                obtain ⟨a2, ha2, hsub2⟩ := bindL_mem ha _ hu
                cases hrc : recheck P u.2 (keepA i aobs) with
                | false => rw [hrc, Bool.and_false] at ha2; cases ha2
                | true =>
                  have hnp : noPan (mayPan o.op) u = true := by
                    unfold noPan
                    split
                    · rfl
                    · rw [h2.noPan]
                  rw [hrc, hnp, Bool.and_self, cond_true] at ha2
                  have hR' := (R.keep i).up h1
                  have hO' := ORel.hold h3 hR' hrc
                  exact ⟨hO', (ihp _ _ _ _ _ B ρ' w' k a2 h2 (h3.back base _) hR' hO' (fun u' hu' B' ρ'' w'' g1 g2 g3 => hQ u' (hsub _ (hsub2 _ hu')) B' ρ'' w'' (h1.trans g1) g2 g3) ha2).1 hp hk⟩
              · cases ha
      have rest : ∀ k, pOK ops true listed r = true → plen r ≤ k + 1 → ∀ j ∈ altsOf r, LO P N ops Q k obs listed j ρ w := by
        intro k hp hk j hj
        have hne : r ≠ .done := by rintro rfl; cases hj
        obtain ⟨vs, hf1, hf2⟩ := hrest hne
        refine (ihr _ _ _ _ _ A ρ w k vs K H R hO (fun v hv B ρ' w' g1 g2 g3 => ?_) hf1).2 hp hk j hj
        obtain ⟨u, hu, hu1, hu2⟩ := hf2 v hv
        exact hQ u hu B ρ' w' g1 (g2.le hu2) (by rw [hu1]; exact g3)
      refine ⟨fun hp hk => ?_, fun hp hk j hj => ?_⟩
      · simp only [pOK, Bool.false_or, Bool.and_eq_true] at hp
        obtain ⟨hrd, hp1, hp2⟩ := hp
        obtain ⟨k, rfl⟩ : ∃ j, k = j + 1 := ⟨k - 1, by simp only [plen] at hk; omega⟩
        simp only [plen] at hk
        refine DO.alts (nsEq_ok hrd) (by simp) fun j hj => ?_
        rcases List.mem_cons.1 hj with rfl | hj
        · exact head k hp1 (by omega)
        · exact rest k hp2 (by omega) j hj
      · simp only [pOK, Bool.true_or, Bool.true_and, Bool.and_eq_true] at hp
        obtain ⟨hp1, hp2⟩ := hp
        simp only [plen] at hk
        rcases List.mem_cons.1 hj with rfl | hj
        · exact head k hp1 (by omega)
        · exact rest k hp2 (by omega) j hj
end
end Go.V
namespace Go.V
set_option linter.unusedSimpArgs false
set_option linter.unusedVariables false
open Go.RowKit
inductive XK where
  | norm
  | exit (i : Nat)
  | ret
  | pan
def XK.toE : XK → Exit
  | .norm => .normal
  | .exit i => .exit i
  | .ret => .ret
  | .pan => .outgrown
abbrev Out := XK × AEnv × AS
abbrev Exec := Nat → Nat → Nat → Code → AEnv → AS → Option (List Out)
abbrev Plans := Nat → Nat → Option (Bool × Plan)
def regOK (T : Plans) (f id n : Nat) (ops : Array Oper) (d : Bool) : Bool := ops.toList.all (dstOk n) && bif d then Region.noSelect ops && (match T f id with
  | some (_, p) => Nat.ble (plen p) ops.size && pOK ops false (Array.replicate ops.size false) p
  | none => true) else true
/-- The plans fit. -/
def codeOK (T : Plans) (f n : Nat) : Code → Bool
  | .region id ops d => regOK T f id n ops d
  | .seq a b => codeOK T f n a && codeOK T f n b
  | .cond _ a b => codeOK T f n a && codeOK T f n b
  | .block _ a => codeOK T f n a
  | .loop a => codeOK T f n a
  | _ => true
def thenOne (g : AEnv → AS → Option (List Out)) : Out → Option (List Out)
  | (.norm, e, S) => g e S
  | (.exit i, e, S) => some [(.exit i, e, S)]
  | (.ret, e, S) => some [(.ret, e, S)]
  | (.pan, e, S) => some [(.pan, e, S)]
def thenA (r : Option (List Out)) (g : AEnv → AS → Option (List Out)) : Option (List Out) := match r with
  | some l => bindL (thenOne g) l
  | none => none
def blockOne (id : Nat) : Out → Out
  | (.exit i, e, S) => bif Nat.beq i id then (.norm, e, S) else (.exit i, e, S)
  | (.norm, e, S) => (.norm, e, S)
  | (.ret, e, S) => (.ret, e, S)
  | (.pan, e, S) => (.pan, e, S)
def blockA (id : Nat) (r : Option (List Out)) : Option (List Out) := match r with
  | some l => some (l.map (blockOne id))
  | none => none
def loopA (X : AEnv → AS → Option (List Out)) : Nat → AEnv → AS → Option (List Out)
  | 0, _, _ => none
  | k + 1, e, S => thenA (X e S) (loopA X k)
def normOne (m : Nat) (u : AEnv × AS) : Out := match panOf u.1 with
  | none => (.norm, trimE m u.1, u.2)
  | some _ => (.pan, u.1, u.2)
def normA (m : Nat) (r : Option (List (AEnv × AS))) : Option (List Out) := match r with
  | some l => some (l.map (normOne m))
  | none => none
def condA (ks : List (BT × Bool)) (e : AEnv) (c : Operand) : Option (List (AEnv × Bool)) := match c with
  | .tmp t => match aget e t with
    | some (.bool b) => some [(e, b)]
    | some (.bex b) => some (splitB ks e t b)
    | _ => none
  | .const (.bool b) => some [(e, b)]
  | _ => none
def execS (P : Program) (T : Plans) (X : Exec) (C : Caller) : Exec := fun f n m c e S => match c with
  | .skip => some [(.norm, e, S)]
  | .label _ => some [(.norm, e, S)]
  | .region id ops d => bif d then (match T f id with
    | some (wd, p) => normA m (planA C P ops (bif wd then some S.next else none) p e S [])
    | none => none) else normA m (regA C P ops ops.toList e S)
  | .seq x y => thenA (X f n m x e S) (X f n m y)
  | .cond c x y => match condA S.facts e c with
    | some gs => bindL (fun g => match g.2 with
      | true => X f n m x g.1 S
      | false => X f n m y g.1 S) gs
    | none => none
  | .block id x => blockA id (X f n m x e S)
  | .loop x => loopA (X f n m x) 2000 e S
  | .exit i => some [(.exit i, e, S)]
  | .ret => some [(.ret, e, S)]
  | _ => none
/-! ### Results -/
def cellA (P : Program) (S : AS) (T : TypeId) (a : Option AV) : Option AV := match a with
  | some a => loadA P S T a
  | none => none
def resL (P : Program) (e : AEnv) (S : AS) : List ResultVar → Option (List AV)
  | [] => some []
  | .tmp t :: r => match aget e t, resL P e S r with
    | some v, some l => some (v :: l)
    | _, _ => none
  | .cell a T :: r => match cellA P S T (aget e a), resL P e S r with
    | some v, some l => some (v :: l)
    | _, _ => none
def resA (P : Program) (fn : Func) (e : AEnv) (S : AS) : Option AV := match resL P e S fn.results.toList with
  | some [a] => some a
  | some l => some (.tup l)
  | none => none
/-! ### Functions that defer one closure -/
def defOf : Code → Option (Code × Nat × Nat × Array Operand × Code)
  | .seq A (.seq (.region _ ⟨[⟨some s, .makeFunc (.func fi) ⟨[]⟩ caps, _, _, _, none⟩, ⟨none, .defer ⟨.value (.tmp s'), ⟨[]⟩, ⟨[]⟩⟩, _, _, _, none⟩]⟩ false) B) => bif Nat.beq s s' then some (A, s, fi, caps, B) else none
  | _ => none
def recOf : Code → Option (Nat × Oper × List Oper × Code)
  | .seq (.region _ ⟨o0 :: l⟩ false) y => match o0 with
    | ⟨some d, .call ⟨.builtin .recover, ⟨[]⟩, _⟩, _, _, _, none⟩ => some (d, o0, l, y)
    | _ => none
  | _ => none
def lenLe (l : List AV) (n : Nat) : Bool := Nat.ble l.length n
/-- The deferred closure, where the frame returns, or panics: md is what it recovers. -/
def recA (P : Program) (F : Nat → Option Func) (M : Nat → Nat) (X : Exec) (C : Caller) (fi : Nat) (cl : List AV) (md : AV) (S : AS) : Option (List AS) := match F fi with
  | none => none
  | some fn => match fn.body with
    | none => none
    | some c => match recOf c, fn.results with
      | some (d, o0, l, y), ⟨[]⟩ => bif lenLe cl fn.ntmps && Nat.blt d fn.ntmps then (match regA C P (o0 :: l).toArray l (aput (argA 0 cl) d md) S with
        | none => none
        | some us => bindL (fun u => bif noPan true u then (match X fi fn.ntmps (M fi) y u.1 u.2 with
          | none => none
          | some os => bindL (fun o => match o.1 with
            | .norm => some [o.2.2]
            | .ret => some [o.2.2]
            | .exit _ => none
            | .pan => none) os) else none) us) else none
      | _, _ => none
def resOne (P : Program) (fn : Func) (e : AEnv) (S : AS) : Option (List (AV × AS)) := match resA P fn e S with
  | some v => some [(v, S)]
  | none => none
/-- Where a frame has no deferred call. -/
def retOne (P : Program) (fn : Func) (o : Out) : Option (List (AV × AS)) := match o.1 with
  | .exit _ => none
  | .norm => resOne P fn o.2.1 o.2.2
  | .ret => resOne P fn o.2.1 o.2.2
  | .pan => match panOf o.2.1 with
    | some (a, _) => some [(.pan a, o.2.2)]
    | none => none
/-- .. where it has one, g. -/
def retTwo (P : Program) (fn : Func) (g : AV → AS → Option (List AS)) (o : Out) : Option (List (AV × AS)) := match o.1 with
  | .exit _ => none
  | .norm => (match g .nilif o.2.2 with
    | some l => bindL (resOne P fn o.2.1) l
    | none => none)
  | .ret => (match g .nilif o.2.2 with
    | some l => bindL (resOne P fn o.2.1) l
    | none => none)
  | .pan => match panOf o.2.1 with
    | some (a, e) => (match g a o.2.2 with
      | some l => bindL (resOne P fn e) l
      | none => none)
    | none => none
def retA (r : Option (List Out)) (g : Out → Option (List (AV × AS))) : Option (List (AV × AS)) := match r with
  | some l => bindL g l
  | none => none
def callA (P : Program) (F : Nat → Option Func) (M : Nat → Nat) (X : Exec) (C : Caller) : Caller := fun f l S => match F f with
  | none => none
  | some fn => match fn.body with
    | none => none
    | some c => bif lenLe l fn.ntmps then (match defOf c with
      | none => retA (X f fn.ntmps (M f) c (argA 0 l) S) (retOne P fn)
      | some (A, s, fi, caps, B) => bif Nat.blt s fn.ntmps then (match X f fn.ntmps (M f) A (argA 0 l) S with
        | some os => bindL (fun o => match o.1 with
          | .norm => (match aops o.2.1 caps.toList with
            | some cl => retA (X f fn.ntmps (M f) B (aput o.2.1 s (.func (.func fi) [] cl)) o.2.2) (retTwo P fn (recA P F M X C fi cl))
            | none => none)
          | .ret => none
          | .pan => none
          | .exit _ => none) os
        | none => none) else none) else none
/-- k: how deep. -/
def execN (P : Program) (T : Plans) (F : Nat → Option Func) (M : Nat → Nat) : Nat → Exec × Caller
  | 0 => (fun _ _ _ _ _ _ => none, fun _ _ _ => none)
  | k + 1 => (execS P T (execN P T F M k).1 (execN P T F M k).2, callA P F M (execN P T F M k).1 (execN P T F M k).2)
section
variable {P : Program} {U : Nat → Prop} {w0 : World} {T : Plans} {F : Nat → Option Func} {M : Nat → Nat}
/-- What holds where code panics. -/
def PanO (U : Nat → Prop) (w0 : World) (A : NM) (Q : EPost) (outs : List Out) : Prop := ∀ o ∈ outs, o.1 = .pan → ∀ a e', panOf o.2.1 = some (a, e') → ∀ B ρ' v w', A.le B → RE B e' ρ' → RV B a v → RW U w0 B o.2.2 w' → Q (.panic [{ v := v, recovered := false }]) ρ' w'
theorem PanO.up {U : Nat → Prop} {w0 : World} {A B : NM} {Q : EPost} {outs : List Out} (h : PanO U w0 A Q outs) (hB : A.le B) : PanO U w0 B Q outs := fun u hu hk a e' ha B' ρ' v w' h1 h2 h3 h4 => h u hu hk a e' ha B' ρ' v w' (hB.trans h1) h2 h3 h4
theorem PanO.sub {U : Nat → Prop} {w0 : World} {A : NM} {Q : EPost} {outs os : List Out} (h : PanO U w0 A Q outs) (hs : ∀ u ∈ os, u.1 = .pan → u ∈ outs) : PanO U w0 A Q os := fun u hu hk => h u (hs u hu hk) hk
def Good (P : Program) (U : Nat → Prop) (w0 : World) (T : Plans) (X : Exec) : Prop := ∀ f n m c e S outs, X f n m c e S = some outs → codeOK T f n c = true → ∀ (A : NM) (ρ : Env) (w : World) (ds : List Deferred) (Q : EPost), RE A e ρ → RW U w0 A S w → PanO U w0 A Q outs →
  (∀ o ∈ outs, o.1 ≠ .pan → ∀ B ρ' w', A.le B → RE B o.2.1 ρ' → RW U w0 B o.2.2 w' → Q o.1.toE ρ' w') → CW P ⟨n, ds⟩ c Q ρ w
/-- What the table of functions says is so. -/
def FunsOK (P : Program) (T : Plans) (F : Nat → Option Func) : Prop := ∀ f fn, F f = some fn → P.funcs[f]? = some fn ∧ (∀ (l : Array Value) w, (callFunc f l).run P w = .ok (.enter f l) w) ∧ ∀ c, fn.body = some c → codeOK T f fn.ntmps c = true
theorem normA_some {m : Nat} {r : Option (List (AEnv × AS))} {outs : List Out} (h : normA m r = some outs) : ∃ us, r = some us ∧ ∀ u ∈ us, normOne m u ∈ outs := by
  unfold normA at h
  split at h
  · cases h; exact ⟨_, rfl, fun u hu => List.mem_map.2 ⟨u, hu, rfl⟩⟩
  · cases h
theorem thenA_some {r : Option (List Out)} {g : AEnv → AS → Option (List Out)} {outs : List Out} (h : thenA r g = some outs) : ∃ os, r = some os ∧ ∀ o ∈ os, (∃ a, o.1 = .norm ∧ g o.2.1 o.2.2 = some a ∧ ∀ x ∈ a, x ∈ outs) ∨ (o.1 ≠ .norm ∧ o ∈ outs) := by
  unfold thenA at h
  split at h
  · rename_i l
    refine ⟨l, rfl, fun o ho => ?_⟩
    obtain ⟨a, h1, h2⟩ := bindL_mem h o ho
    obtain ⟨k, e, S⟩ := o
    cases k with
    | norm => exact .inl ⟨a, rfl, h1, h2⟩
    | exit i => cases h1; exact .inr ⟨by simp, h2 _ (List.mem_singleton.2 rfl)⟩
    | ret => cases h1; exact .inr ⟨by simp, h2 _ (List.mem_singleton.2 rfl)⟩
    | pan => cases h1; exact .inr ⟨by simp, h2 _ (List.mem_singleton.2 rfl)⟩
  · cases h
theorem condA_ok {A : NM} {e : AEnv} {ρ : Env} {c : Operand} {ks : List (BT × Bool)} {gs : List (AEnv × Bool)} (HF : ∀ p ∈ ks, p.1.ev A.sy = p.2) (K : RE A e ρ) (h : condA ks e c = some gs) : ∃ g ∈ gs, RE A g.1 ρ ∧ ev ρ c = .bool g.2 := by
  unfold condA at h
  split at h
  · rename_i t
    split at h
    · rename_i b hb
      have := K t _ hb
      simp only [RV] at this
      cases h
      exact ⟨_, List.mem_singleton.2 rfl, K, this⟩
    · rename_i b hb
      have hk := K t _ hb
      simp only [RV] at hk
      cases h
      obtain ⟨g, h1, h2, h3⟩ := splitB_ok HF K hk
      exact ⟨g, h1, h2, h3⟩
    · cases h
  · cases h; exact ⟨_, List.mem_singleton.2 rfl, K, rfl⟩
  · cases h
theorem thenE_ne {K : Env → World → Prop} {Q : EPost} {ρ : Env} {w : World} {k : XK} (hk : k ≠ .norm) (h : Q k.toE ρ w) : thenE K Q k.toE ρ w := by
  cases k with
  | norm => exact absurd rfl hk
  | exit i => exact h
  | ret => exact h
  | pan => exact h
theorem blockOne_ok (id : Nat) (o : Out) (Q : EPost) (ρ : Env) (w : World) (hp : o.1 ≠ .pan) (h : Q (blockOne id o).1.toE ρ w) : blockE id Q o.1.toE ρ w := by
  obtain ⟨k, e, S⟩ := o
  cases k with
  | norm => exact h
  | ret => exact h
  | pan => exact absurd rfl hp
  | exit i =>
    cases hb : Nat.beq i id with
    | true =>
      simp only [blockOne, hb, cond_true] at h
      have := beqT hb; subst this
      exact blockE_hit h
    | false =>
      simp only [blockOne, hb, cond_false] at h
      exact blockE_miss hb h
theorem blockOne_snd (id : Nat) (o : Out) : (blockOne id o).2 = o.2 := by
  obtain ⟨k, e, S⟩ := o
  cases k with
  | norm => rfl
  | ret => rfl
  | pan => rfl
  | exit i =>
    simp only [blockOne]
    cases Nat.beq i id <;> rfl
theorem normOne_no {m : Nat} {u : AEnv × AS} (h : panOf u.1 = none) : normOne m u = (.norm, trimE m u.1, u.2) := by unfold normOne; rw [h]
theorem normOne_pan {m : Nat} {u : AEnv × AS} {x : AV × AEnv} (h : panOf u.1 = some x) : normOne m u = (.pan, u.1, u.2) := by unfold normOne; rw [h]
theorem execS_good {X : Exec} {C : Caller} (hm : P.follows .mixedOrders = true) (hX : Good P U w0 T X) (hC : CallsOK P U w0 C) : Good P U w0 T (execS P T X C) := by
  intro f n mm c e S outs h hco A ρ w ds Q K H hP hQ
  unfold execS at h
  split at h
  · cases h; exact CW.skip (hQ _ (List.mem_singleton.2 rfl) (by simp) A ρ w (NM.le.refl A) K H)
  · cases h; exact CW.label (hQ _ (List.mem_singleton.2 rfl) (by simp) A ρ w (NM.le.refl A) K H)
  · rename_i id ops d
    simp only [codeOK, regOK, Bool.and_eq_true] at hco
    obtain ⟨hd, hco⟩ := hco
    cases d with
    | true =>
      rw [cond_true] at h hco
      rw [Bool.and_eq_true] at hco
      obtain ⟨hs, hco⟩ := hco
      split at h
      · rename_i wd p hT
        rw [hT] at hco
        simp only [Bool.and_eq_true] at hco
        obtain ⟨us, h9, hsub⟩ := normA_some h
        refine CW.drawO hm rfl fun w1 hw1 hx1 => ?_
        have hdo : ∀ (i : Nat) (o : Oper), ops[i]? = some o → ∀ x, o.dst = some x → x < n := by
          intro i o ho
          have := List.all_eq_true.1 hd o (by rw [← Array.getElem?_toList] at ho; exact List.mem_of_getElem? ho)
          exact dstOk_ok this
        exact (plan_ok hC hs hdo p _ _ _ [] [] A ρ w1 ops.size us K (H.same hw1 hx1) rfl (fun ob hb => by cases hb) (fun u hu B ρ' w' g1 g2 g3 => by
          have := hsub u hu
          rw [normOne_no g2.noPan] at this
          exact hQ _ this (by simp) B ρ' w' g1 (g2.trim mm) g3) h9).1 hco.2 (Nat.le_of_ble_eq_true hco.1)
      · cases h
    | false =>
      rw [cond_false] at h
      obtain ⟨us, h9, hsub⟩ := normA_some h
      have := CW.region (P := P) (N := ⟨n, ds⟩) (id := id) (l := ops.toList) (Q := Q) (ρ := ρ) (w := w) (by
        rw [Array.toArray_toList]
        refine regA_ok hC h9 hd K H (fun u hu a e' hp => ?_) (fun u hu B ρ' w' g1 g2 g3 => ?_)
        · have := hsub u hu
          rw [normOne_pan hp] at this
          exact hP _ this rfl a e' hp
        · have := hsub u hu
          rw [normOne_no g2.noPan] at this
          exact hQ _ this (by simp) B ρ' w' g1 (g2.trim mm) g3)
      rwa [Array.toArray_toList] at this
  · rename_i x y
    simp only [codeOK, Bool.and_eq_true] at hco
    refine CW.seq fun KK hK => ?_
    obtain ⟨os, h1, h2⟩ := thenA_some h
    refine hX _ _ _ _ _ _ _ h1 hco.1 A ρ w ds _ K H (fun o ho hpk a e' ha B ρ' v w' g1 g2 g3 g4 => ?_) fun o ho hnp B ρ' w' g1 g2 g3 => ?_
    · rcases h2 o ho with ⟨a, hk, h3, h4⟩ | ⟨hk, h3⟩
      · rw [hpk] at hk; cases hk
      · exact thenE_pan (hP o h3 hpk a e' ha B ρ' v w' g1 g2 g3 g4)
    rcases h2 o ho with ⟨a, hk, h3, h4⟩ | ⟨hk, h3⟩
    · rw [hk]
      exact hK _ _ (hX _ _ _ _ _ _ _ h3 hco.2 B ρ' w' ds Q g2 g3 ((hP.sub fun u hu _ => h4 u hu).up g1) fun o' ho' hnp' B' ρ'' w'' k1 k2 k3 => hQ o' (h4 _ ho') hnp' B' ρ'' w'' (g1.trans k1) k2 k3)
    · exact thenE_ne hk (hQ o h3 hnp B ρ' w' g1 g2 g3)
  · rename_i c x y
    simp only [codeOK, Bool.and_eq_true] at hco
    split at h
    · rename_i gs hc
      obtain ⟨⟨e1, b⟩, hg, K1, hb⟩ := condA_ok H.facts K hc
      obtain ⟨a, ha, hsub⟩ := bindL_mem h _ hg
      simp only at ha K1 hb
      cases b with
      | true => exact CW.condT hb rfl (hX _ _ _ _ _ _ _ ha hco.1 A ρ w ds Q K1 H (hP.sub fun u hu _ => hsub u hu) fun o ho => hQ o (hsub _ ho))
      | false => exact CW.condF hb rfl (hX _ _ _ _ _ _ _ ha hco.2 A ρ w ds Q K1 H (hP.sub fun u hu _ => hsub u hu) fun o ho => hQ o (hsub _ ho))
    · cases h
  · rename_i id x
    unfold blockA at h
    split at h
    · rename_i l hl
      cases h
      refine CW.block (hX _ _ _ _ _ _ _ hl hco A ρ w ds _ K H (fun o ho hpk a e' ha B ρ' v w' g1 g2 g3 g4 => ?_) fun o ho hnp B ρ' w' g1 g2 g3 => blockOne_ok id o Q ρ' w' hnp (hQ (blockOne id o) (List.mem_map.2 ⟨o, ho, rfl⟩) ?_ B ρ' w' g1 (by rw [blockOne_snd]; exact g2) (by rw [blockOne_snd]; exact g3)))
      · have hb : blockOne id o = o := by
          obtain ⟨k, e1, S1⟩ := o
          cases hpk
          rfl
        exact blockE_pan (hP o (List.mem_map.2 ⟨o, ho, hb⟩) hpk a e' ha B ρ' v w' g1 g2 g3 g4)
      · obtain ⟨k, e1, S1⟩ := o
        cases k with
        | norm => simp [blockOne]
        | ret => simp [blockOne]
        | pan => exact absurd rfl hnp
        | exit i => simp only [blockOne]; cases Nat.beq i id <;> simp
    · cases h
  · rename_i x
    refine CW.loop (I := fun m ρ' w' => ∃ B e1 S1 os, A.le B ∧ RE B e1 ρ' ∧ RW U w0 B S1 w' ∧ loopA (X f n mm x) m e1 S1 = some os ∧ ∀ o ∈ os, o ∈ outs) 2000 ⟨A, e, S, outs, NM.le.refl A, K, H, h, fun _ h => h⟩ ?_
    rintro m ρ1 w1 ⟨B, e1, S1, os, g1, g2, g3, g4, g5⟩
    cases m with
    | zero => cases g4
    | succ m =>
      unfold loopA at g4
      obtain ⟨us, h1, h2⟩ := thenA_some g4
      refine hX _ _ _ _ _ _ _ h1 hco B ρ1 w1 ds _ g2 g3 (fun o ho hpk a e' ha B' ρ' v w' k1 k2 k3 k4 => ?_) fun o ho hnp B' ρ' w' k1 k2 k3 => ?_
      · rcases h2 o ho with ⟨a, hk, h3, h4⟩ | ⟨hk, h3⟩
        · rw [hpk] at hk; cases hk
        · exact thenE_pan (hP o (g5 _ h3) hpk a e' ha B' ρ' v w' (g1.trans k1) k2 k3 k4)
      rcases h2 o ho with ⟨a, hk, h3, h4⟩ | ⟨hk, h3⟩
      · rw [hk]
        exact ⟨m, Nat.lt_succ_self m, B', _, _, a, g1.trans k1, k2, k3, h3, fun x hx => g5 _ (h4 _ hx)⟩
      · exact thenE_ne hk (hQ o (g5 _ h3) hnp B' ρ' w' (g1.trans k1) k2 k3)
  · cases h; exact CW.exit (hQ _ (List.mem_singleton.2 rfl) (by simp) A ρ w (NM.le.refl A) K H)
  · cases h; exact CW.ret (hQ _ (List.mem_singleton.2 rfl) (by simp) A ρ w (NM.le.refl A) K H)
  · cases h
theorem loadVarA_ok {A : NM} {S : AS} {w : World} {TT : TypeId} {a r : AV} {V : Value} (H : RW U w0 A S w) (hx : RV A a V) (h : loadA P S TT a = some r) : ∃ ad v, V = .pointer (some ad) ∧ RV A r v ∧ (loadVar TT ad).run P w = .ok v w := by
  unfold loadA at h
  split at h
  · rename_i n o
    simp only [RV] at hx
    obtain ⟨b, p, q, hA, hx⟩ := hx
    split at h
    · rename_i cs E' s hS hT
      obtain ⟨b', p', q', v, hA', hc, hr⟩ := H.cell hS h
      rw [hA] at hA'; cases hA'
      exact ⟨_, v, hx, hr, by simp [loadVar, tAgg_ok hT, hc, go_sem]⟩
    · rename_i cs E' s hS hT hs
      cases hb : Nat.ble (o + s) cs.length with
      | false => rw [hb] at h; cases h
      | true =>
        rw [hb] at h
        cases h
        obtain ⟨b', p', q', vs, hA', hl, hc, hr⟩ := H.cells hS o s (Nat.le_of_ble_eq_true hb)
        rw [hA] at hA'; cases hA'
        have := run_loadCells_list (P := P) w ⟨b, p + o, none⟩ vs (fun j u hu => by rw [addr_add]; exact hc.get j u hu)
        rw [hl] at this
        unfold loadCells at this
        exact ⟨_, .agg vs.toArray, hx, by simp only [RV]; exact ⟨vs, rfl, hr⟩, by simp [loadVar, tAgg_ok hT, tSize_ok hs, this, go_sem]⟩
    · cases h
  · cases h
def resRun (tmps : Array Value) : ResultVar → Sem Value
  | .tmp t => pure (tmps.getD t undef)
  | .cell a t => do loadVar t (← asAddr (tmps.getD a undef))
theorem resL_ok {A : NM} {S : AS} {w : World} {e : AEnv} {ρ : Env} (H : RW U w0 A S w) (K : RE A e ρ) : ∀ {l : List ResultVar} {r : List AV}, resL P e S l = some r → ∃ vs, RVs A r vs ∧ ∀ tmps : Array Value, (∀ t, tmps.getD t undef = ρ t) → (l.mapM (resRun tmps)).run P w = .ok vs w
  | [], r, h => by cases h; exact ⟨[], RVs.nil A, fun tmps ht => by simp [Sem.run_pure]⟩
  | .tmp t :: l, r, h => by
    unfold resL at h
    split at h
    · rename_i v m hv hm
      cases h
      obtain ⟨vs, h1, h2⟩ := resL_ok H K hm
      refine ⟨ρ t :: vs, RVs.cons (K t v hv) h1, fun tmps ht => ?_⟩
      simp only [List.mapM_cons, resRun, Sem.run_bind, Sem.run_pure, Result.andThen_ok, h2 tmps ht, ht]
    · cases h
  | .cell a TT :: l, r, h => by
    unfold resL at h
    split at h
    · rename_i v m hv hm
      cases h
      obtain ⟨vs, h1, h2⟩ := resL_ok H K hm
      unfold cellA at hv
      split at hv
      · rename_i b hb
        obtain ⟨ad, u, k1, k2, k3⟩ := loadVarA_ok H (K a b hb) hv
        refine ⟨u :: vs, RVs.cons k2 h1, fun tmps ht => ?_⟩
        simp only [List.mapM_cons, resRun, Sem.run_bind, Sem.run_pure, Result.andThen_ok, h2 tmps ht, ht, k1, asAddr, k3]
      · cases hv
    · cases h
theorem resA_ok {A : NM} {S : AS} {w : World} {e : AEnv} {ρ : Env} {fn : Func} {r : AV} (H : RW U w0 A S w) (K : RE A e ρ) (h : resA P fn e S = some r) : ∃ v, RV A r v ∧ resE P fn ρ w v := by
  have hrun : ∀ (tmps : Array Value) (vs : List Value), (fn.results.toList.mapM (resRun tmps)).run P w = .ok vs w → (results fn tmps).run P w = .ok (if h : vs.toArray.size = 1 then vs.toArray[0] else .tuple vs.toArray) w := by
    intro tmps vs hvs
    have e1 : results fn tmps = (do let vs ← fn.results.mapM (resRun tmps); pure (if h : vs.size = 1 then vs[0] else .tuple vs)) := rfl
    rw [e1, Array.mapM_eq_mapM_toList]
    simp only [map_eq_pure_bind, Sem.run_bind, hvs, Result.andThen_ok, Sem.run_pure]
  unfold resA at h
  split at h
  · rename_i a hl
    cases h
    obtain ⟨vs, h1, h2⟩ := resL_ok H K hl
    simp only [RVs] at h1
    obtain ⟨v, t, rfl, k1, rfl⟩ := h1
    exact ⟨v, k1, fun tmps ht => by rw [hrun _ _ (h2 tmps ht)]; simp⟩
  · rename_i l hne hl
    cases h
    obtain ⟨vs, h1, h2⟩ := resL_ok H K hl
    refine ⟨.tuple vs.toArray, by simp only [RV]; exact ⟨vs, rfl, h1⟩, fun tmps ht => ?_⟩
    rw [hrun _ _ (h2 tmps ht), dif_neg]
    intro h1'
    have hlen := h1.length
    rw [List.size_toArray, hlen] at h1'
    match l, h1' with
    | [a], _ => exact hne a rfl
  · cases h
theorem defOf_ok {c A B : Code} {s fi : Nat} {caps : Array Operand} (h : defOf c = some (A, s, fi, caps, B)) : ∃ id ty1 pos1 af1 ty2 pos2 af2, c = .seq A (.seq (.region id #[⟨some s, .makeFunc (.func fi) #[] caps, ty1, pos1, af1, none⟩, ⟨none, .defer { callee := .value (.tmp s), args := #[], argTypes := #[] }, ty2, pos2, af2, none⟩] false) B) := by
  unfold defOf at h
  split at h
  · rename_i A' id s1 fi1 caps1 ty1 pos1 af1 s2 ty2 pos2 af2 B'
    cases hb : Nat.beq s1 s2 with
    | false => rw [hb] at h; cases h
    | true =>
      rw [hb] at h
      cases h
      have := beqT hb; subst this
      exact ⟨_, _, _, _, _, _, _, rfl⟩
  · cases h
theorem recOf_ok {c y : Code} {d : Nat} {o0 : Oper} {l : List Oper} (h : recOf c = some (d, o0, l, y)) : ∃ id tys ty pos af, c = .seq (.region id (o0 :: l).toArray false) y ∧ o0 = ⟨some d, .call ⟨.builtin .recover, ⟨[]⟩, tys⟩, ty, pos, af, none⟩ := by
  unfold recOf at h
  split at h
  · split at h
    · cases h; exact ⟨_, _, _, _, _, rfl, rfl⟩
    · cases h
  · cases h
theorem retA_some {r : Option (List Out)} {g : Out → Option (List (AV × AS))} {outs : List (AV × AS)} (h : retA r g = some outs) : ∃ os, r = some os ∧ bindL g os = some outs := by
  unfold retA at h
  split at h
  · exact ⟨_, rfl, h⟩
  · cases h
theorem resOne_some {fn : Func} {e : AEnv} {S : AS} {l : List (AV × AS)} (h : resOne P fn e S = some l) : ∃ v, resA P fn e S = some v ∧ l = [(v, S)] := by
  unfold resOne at h
  split at h
  · cases h; exact ⟨_, by assumption, rfl⟩
  · cases h
/-- The deferred closure, called as the frame returns, or panics. -/
theorem recA_ok {X : Exec} {C : Caller} (hF : FunsOK P T F) (hX : Good P U w0 T X) (hC : CallsOK P U w0 C) {fi : Nat} {cl : List AV} {md : AV} {S : AS} {l3 : List AS} (h3 : recA P F M X C fi cl md S = some l3) {B2 : NM} {ls : List Value} {w2 : World} {u u' : FrameMode} {mv : Value} (hcl : RVs B2 cl ls) (hmd : RV B2 md mv) (hu : Recovers u mv u') (k3 : RW U w0 B2 S w2) :
    (∀ (l : Array Value) w, (callFunc fi l).run P w = .ok (.enter fi l) w) ∧ CallsD P fi ls.toArray u w2 fun e u'' w' => e = .returned (.tuple #[]) ∧ u'' = u' ∧ ∃ B3, B2.le B3 ∧ ∃ S' ∈ l3, RW U w0 B3 S' w' := by
  unfold recA at h3
  split at h3
  · cases h3
  rename_i fn2 hfn2
  obtain ⟨hf2, hcall2, hcode2⟩ := hF fi fn2 hfn2
  refine ⟨hcall2, ?_⟩
  split at h3
  · cases h3
  rename_i cc hcc
  have hco3 := hcode2 cc hcc
  split at h3
  · rename_i d o0 ol y hrec hres0
    obtain ⟨id0, tys0, ty0, pos0, af0, rfl, ho0⟩ := recOf_ok hrec
    cases hb : (lenLe cl fn2.ntmps && Nat.blt d fn2.ntmps) with
    | false => rw [hb] at h3; cases h3
    | true =>
      rw [hb, cond_true] at h3
      rw [Bool.and_eq_true] at hb
      split at h3
      · cases h3
      rename_i us3 hreg
      simp only [codeOK, regOK, Bool.and_eq_true] at hco3
      obtain ⟨⟨hdst, _⟩, hco4⟩ := hco3
      refine callsD_recover hf2 hcc rfl (by rw [hcl.length]; exact Nat.le_of_ble_eq_true hb.1) hres0 (by subst ho0; intro ρ w; simp [go_sem]) (by rw [ho0]) (by rw [ho0]) hb.2 hu ?_
      refine regA_ok hC hreg (by
        rw [List.all_cons, Bool.and_eq_true] at hdst
        exact hdst.2) ((RE.args 0 hcl).put hmd) k3 ?_ ?_
      · intro u3 hu3 a e' hp
        obtain ⟨a3, ha3, hsub3⟩ := bindL_mem h3 u3 hu3
        rw [show noPan true u3 = false from by unfold noPan; simp only [hp]] at ha3
        cases ha3
      intro u3 hu3 B3 ρ3 w3 j1 j2 j3
      obtain ⟨a3, ha3, hsub3⟩ := bindL_mem h3 u3 hu3
      rw [show noPan true u3 = true from by unfold noPan; simp only [j2.noPan], cond_true] at ha3
      split at ha3
      · cases ha3
      rename_i os4 hy
      refine hX _ _ _ _ _ _ _ hy hco4 B3 ρ3 w3 [] _ j2 j3 ?_ ?_
      · intro o4 ho4 hpk
        obtain ⟨a4, ha4, hsub4⟩ := bindL_mem ha3 o4 ho4
        rw [hpk] at ha4
        cases ha4
      intro o4 ho4 hnp B4 ρ4 w4 i1 i2 i3
      obtain ⟨a4, ha4, hsub4⟩ := bindL_mem ha3 o4 ho4
      obtain ⟨k4, e4, S4⟩ := o4
      cases k4 with
      | exit i => cases ha4
      | pan => cases ha4
      | norm =>
        cases ha4
        exact ⟨.inl rfl, B4, j1.trans i1, S4, hsub3 _ (hsub4 _ (List.mem_singleton.2 rfl)), i3⟩
      | ret =>
        cases ha4
        exact ⟨.inr rfl, B4, j1.trans i1, S4, hsub3 _ (hsub4 _ (List.mem_singleton.2 rfl)), i3⟩
  · cases h3
theorem callA_ok {X : Exec} {C : Caller} (hF : FunsOK P T F) (hX : Good P U w0 T X) (hC : CallsOK P U w0 C) : CallsOK P U w0 (callA P F M X C) := by
  intro f l S outs h
  unfold callA at h
  split at h
  · cases h
  rename_i fn hfn
  obtain ⟨hf, hcall, hcode⟩ := hF f fn hfn
  refine ⟨hcall, fun A ls w hl H => ?_⟩
  split at h
  · cases h
  rename_i c hc
  have hco := hcode c hc
  cases hn : lenLe l fn.ntmps with
  | false => rw [hn] at h; cases h
  | true =>
    rw [hn, cond_true] at h
    have hnl : ls.length ≤ fn.ntmps := by rw [hl.length]; exact Nat.le_of_ble_eq_true hn
    split at h
    · obtain ⟨os, h1, h2⟩ := retA_some h
      refine calls_of_CW hf hc rfl hnl (hX _ _ _ _ _ _ _ h1 hco A _ w [] _ (RE.args 0 hl) H ?_ ?_)
      · intro o ho hpk a e' ha B ρ' v w' g1 g2 g3 g4
        obtain ⟨b, hb, hs⟩ := bindL_mem h2 o ho
        unfold retOne at hb
        rw [hpk] at hb
        simp only [ha] at hb
        cases hb
        exact ⟨_, hs _ (List.mem_singleton.2 rfl), B, g1, .inr ⟨a, v, rfl, rfl, g3⟩, g4⟩
      intro o ho hnp B ρ' w' g1 g2 g3
      obtain ⟨b, hb, hs⟩ := bindL_mem h2 o ho
      obtain ⟨k, e, S1⟩ := o
      have key : ∀ {b}, resOne P fn e S1 = some b → (∀ y ∈ b, y ∈ outs) → ∃ u, resE P fn ρ' w' u ∧ ∃ o ∈ outs, ∃ B, A.le B ∧ Ends B o.1 (.returned u) ∧ RW U w0 B o.2 w' := by
        intro b hb hs
        obtain ⟨v, h4, rfl⟩ := resOne_some hb
        obtain ⟨u, hv1, hv2⟩ := resA_ok g3 g2 h4
        exact ⟨u, hv2, _, hs _ (List.mem_singleton.2 rfl), B, g1, .inl ⟨u, rfl, hv1⟩, g3⟩
      cases k with
      | exit i => cases hb
      | pan => exact absurd rfl hnp
      | norm => exact key hb hs
      | ret => exact key hb hs
    · rename_i c1 s fi caps c2 hdef
      obtain ⟨id, ty1, pos1, af1, ty2, pos2, af2, rfl⟩ := defOf_ok hdef
      simp only [codeOK, Bool.and_eq_true] at hco
      obtain ⟨hco1, _, hco2⟩ := hco
      cases hs : Nat.blt s fn.ntmps with
      | false => rw [hs] at h; cases h
      | true =>
        rw [hs, cond_true] at h
        split at h
        · rename_i os1 hx1
          refine calls_of_CWD hf hc rfl hnl hs (hX _ _ _ _ _ _ _ hx1 hco1 A _ w [] _ (RE.args 0 hl) H ?_ ?_)
          · intro o ho hpk
            obtain ⟨a1, ha1, _⟩ := bindL_mem h o ho
            rw [hpk] at ha1
            cases ha1
          intro o1 ho1 hnp1 B ρ1 w1 g1 g2 g3
          obtain ⟨a1, ha1, hsub1⟩ := bindL_mem h o1 ho1
          obtain ⟨k1', e1, S1⟩ := o1
          cases k1' with
          | ret => cases ha1
          | pan => cases ha1
          | exit i => cases ha1
          | norm =>
            simp only at ha1 g2 g3
            split at ha1
            · rename_i cla hcl
              obtain ⟨os2, h1, h2⟩ := retA_some ha1
              have hclv := aops_ok g2 hcl
              refine ⟨_, rfl, hX _ _ _ _ _ _ _ h1 hco2 B _ w1 _ _ (g2.put (by simp only [RV]; exact ⟨[], _, rfl, RVs.nil B, hclv⟩)) g3 ?_ ?_⟩
              · intro o2 ho2 hpk a e' ha B2 ρ2 v w2 k1 k2 k3 k4
                obtain ⟨b, hb, hs2⟩ := bindL_mem h2 o2 ho2
                unfold retTwo at hb
                rw [hpk] at hb
                simp only [ha] at hb
                split at hb
                · rename_i l3 h3
                  intro tmps ht
                  obtain ⟨hcall2, hD⟩ := recA_ok hF hX hC h3 (RVs.up k1 _ _ hclv) k3 (.inl ⟨v, [], rfl, rfl, rfl⟩) k4
                  refine leaves_pan (T := fun w' => ∃ B3, B2.le B3 ∧ ∃ S' ∈ l3, RW U w0 B3 S' w') hcall2 hD ?_
                  rintro w' ⟨B3, j1, S', hS', j2⟩
                  obtain ⟨b5, h5, hs5⟩ := bindL_mem hb S' hS'
                  obtain ⟨v0, h6, rfl⟩ := resOne_some h5
                  obtain ⟨u, hv1, hv2⟩ := resA_ok j2 (k2.up j1) h6
                  exact ⟨u, hv2 tmps ht, _, hsub1 _ (hs2 _ (hs5 _ (List.mem_singleton.2 rfl))), B3, (g1.trans k1).trans j1, .inl ⟨u, rfl, hv1⟩, j2⟩
                · cases hb
              intro o2 ho2 hnp2 B2 ρ2 w2 k1 k2 k3
              obtain ⟨b, hb, hs2⟩ := bindL_mem h2 o2 ho2
              obtain ⟨k, e2, S2⟩ := o2
              have key : ∀ {b} , (match recA P F M X C fi cla .nilif S2 with
                  | some l => bindL (resOne P fn e2) l
                  | none => none) = some b → (∀ y ∈ b, y ∈ a1) → ∀ tmps : Array Value, (∀ t, tmps.getD t undef = ρ2 t) → Leaves P fn tmps (fun en w' => ∃ o ∈ outs, ∃ B, A.le B ∧ Ends B o.1 en ∧ RW U w0 B o.2 w') [{ target := .fn (.func fi) (caps.toList.map (ev ρ1)).toArray, args := #[] }] .returning w2 := by
                intro b hb hs2 tmps ht
                split at hb
                · rename_i l3 h3
                  obtain ⟨hcall2, hD⟩ := recA_ok hF hX hC h3 (RVs.up k1 _ _ hclv) (by simp [RV]) (.inr ⟨rfl, rfl, rfl⟩) k3
                  refine leaves_ret (T := fun w' => ∃ B3, B2.le B3 ∧ ∃ S' ∈ l3, RW U w0 B3 S' w') hcall2 hD ?_
                  rintro w' ⟨B3, j1, S', hS', j2⟩
                  obtain ⟨b5, h5, hs5⟩ := bindL_mem hb S' hS'
                  obtain ⟨v0, h6, rfl⟩ := resOne_some h5
                  obtain ⟨u, hv1, hv2⟩ := resA_ok j2 (k2.up j1) h6
                  exact ⟨u, hv2 tmps ht, _, hsub1 _ (hs2 _ (hs5 _ (List.mem_singleton.2 rfl))), B3, (g1.trans k1).trans j1, .inl ⟨u, rfl, hv1⟩, j2⟩
                · cases hb
              cases k with
              | exit i => cases hb
              | pan => exact absurd rfl hnp2
              | norm => exact key hb hs2
              | ret => exact key hb hs2
            · cases ha1
        · cases h
theorem execN_ok (hm : P.follows .mixedOrders = true) (hF : FunsOK P T F) : ∀ k, Good P U w0 T (execN P T F M k).1 ∧ CallsOK P U w0 (execN P T F M k).2
  | 0 => ⟨fun _ _ _ _ _ _ _ h => (by cases h), fun _ _ _ _ h => (by cases h)⟩
  | k + 1 => ⟨execS_good hm (execN_ok hm hF k).1 (execN_ok hm hF k).2, callA_ok hF (execN_ok hm hF k).1 (execN_ok hm hF k).2⟩
end
end Go.V
namespace Go.V
set_option linter.unusedSimpArgs false
set_option linter.unusedVariables false
open Go.RowKit
def keysBelow (k : Nat) : Tr AO → Nat → Nat → Bool
  | .nil, _, _ => true
  | .node v l r, a, b => (match v with
    | some _ => Nat.blt b k
    | none => true) && (keysBelow k l (2 * a) (a + b) && keysBelow k r (2 * a) (2 * a + b))
theorem keysBelow_ok {k : Nat} : ∀ {t : Tr AO} {a b j : Nat} {o : AO}, keysBelow k t a b = true → t.get j = some o → a * j + b < k
  | .nil, a, b, j, o, h, hj => by cases hj
  | .node v l r, a, b, j, o, h, hj => by
    simp only [keysBelow, Bool.and_eq_true] at h
    obtain ⟨h1, h2, h3⟩ := h
    unfold Tr.get at hj
    cases h0 : Nat.beq j 0 with
    | true =>
      rw [h0] at hj
      have := beqT h0; subst this
      simp only [cond_true] at hj
      subst hj
      have : b < k := Nat.le_of_ble_eq_true h1
      simpa using this
    | false =>
      rw [h0, cond_false] at hj
      have := beqF h0
      cases hm : Nat.beq (j % 2) 1 with
      | true =>
        rw [hm, cond_true] at hj
        have hm := beqT hm
        have := keysBelow_ok h2 hj
        have e : j = 2 * (j / 2) + 1 := by omega
        have e2 : a * j = 2 * a * (j / 2) + a := by
          rw [show a * j = a * (2 * (j / 2) + 1) from by rw [← e], Nat.mul_add, Nat.mul_one, ← Nat.mul_assoc, Nat.mul_comm a 2]
        omega
      | false =>
        rw [hm, cond_false] at hj
        have hm := beqF hm
        have := keysBelow_ok h3 hj
        have e : j = 2 * (j / 2 - 1) + 2 := by omega
        have e2 : a * j = 2 * a * (j / 2 - 1) + 2 * a := by
          rw [show a * j = a * (2 * (j / 2 - 1) + 2) from by rw [← e], Nat.mul_add, ← Nat.mul_assoc, Nat.mul_comm a 2]
        omega
def mkT : List (Nat × AO) → Tr AO
  | [] => .nil
  | p :: r => Tr.set p.2 (p.1 + 1) (mkT r) p.1
theorem mkT_get : ∀ {l : List (Nat × AO)} {n : Nat} {o : AO}, (mkT l).get n = some o → (n, o) ∈ l
  | [], n, o, h => by cases h
  | p :: r, n, o, h => by
    unfold mkT at h
    rw [Tr.get_set p.2 (p.1 + 1) (mkT r) p.1 n (Nat.lt_succ_self _)] at h
    split at h
    · rename_i e
      cases h
      subst e
      exact List.mem_cons_self ..
    · exact List.mem_cons_of_mem _ (mkT_get h)
def sameObjs (S : AS) : List (Nat × AO) → Bool
  | [] => true
  | p :: r => (match S.get p.1 with
    | some o => aoEq o p.2
    | none => false) && sameObjs S r
theorem sameObjs_ok {S : AS} : ∀ {l : List (Nat × AO)}, sameObjs S l = true → ∀ p ∈ l, S.get p.1 = some p.2
  | [], _, p, hp => by cases hp
  | q :: r, h, p, hp => by
    unfold sameObjs at h
    rw [Bool.and_eq_true] at h
    rcases List.mem_cons.1 hp with rfl | hp
    · have h1 := h.1
      split at h1
      · rename_i o ho
        rw [ho, aoEq_ok h1]
      · cases h1
    · exact sameObjs_ok h.2 p hp
def gcOK (S : AS) (l : List (Nat × AO)) (k : Nat) : Bool := sameObjs S l && (Nat.ble S.low k && keysBelow k S.heap 1 0)
def stOf (l : List (Nat × AO)) (nx lo : Nat) : AS := ⟨mkT l, nx, lo, []⟩
theorem RW.gc {U : Nat → Prop} {w0 : World} {A : NM} {S : AS} {w : World} {l : List (Nat × AO)} {k : Nat} (H : RW U w0 A S w) (h : gcOK S l k = true) : RW U w0 A (stOf l k k) w := by
  unfold gcOK at h
  simp only [Bool.and_eq_true] at h
  obtain ⟨h1, h2, h3⟩ := h
  have h2 := Nat.le_of_ble_eq_true h2
  have hs : ∀ n o, (stOf l k k).get n = some o → S.get n = some o := fun n o hn => sameObjs_ok h1 (n, o) (mkT_get hn)
  refine ⟨H.ext, fun n hn => H.fresh n ⟨Nat.le_trans h2 hn.1, ?_⟩, H.above, fun n o hn => H.obj n o (hs n o hn), fun n m b p z q y o o' hnm h4 h5 h6 h7 => H.apart n m b p z q y o o' hnm h4 h5 (hs n o h6) (hs m o' h7), fun p hp => (by cases hp), H.zero⟩
  cases ho : S.get n with
  | none => rfl
  | some o =>
    have := keysBelow_ok h3 ho
    have hk : k ≤ n := hn.1
    omega
/-- A call that was evaluated: the function, what it is given, the heap ahead of it; what it answers, the heap behind it. -/
structure Ent where
  f : Nat
  l : List AV
  nx : Nat
  lo : Nat
  i : List (Nat × AO)
  r : AV
  nx' : Nat
  o : List (Nat × AO)
def isNone {α : Type} : Option α → Bool
  | none => true
  | some _ => false
def chk (C : Caller) (e : Ent) : Bool := match C e.f e.l (stOf e.i e.nx e.lo) with
  | some [(r, S')] => (avEq r e.r && isNone (panV r)) && gcOK S' e.o e.nx'
  | _ => false
def EntOK (P : Program) (e : Ent) : Prop := (∀ (l : Array Value) w, (callFunc e.f l).run P w = .ok (.enter e.f l) w) ∧
  ∀ U w0 A ls w, RVs A e.l ls → RW U w0 A (stOf e.i e.nx e.lo) w → Calls P e.f ls.toArray w (fun en w' => ∃ B v, en = .returned v ∧ A.le B ∧ RV B e.r v ∧ RW U w0 B (stOf e.o e.nx' e.nx') w')
theorem EntOK.of {P : Program} {C : Caller} {e : Ent} (hC : ∀ U w0, CallsOK P U w0 C) (h : chk C e = true) : EntOK P e := by
  unfold chk at h
  split at h
  · rename_i r S' hc
    rw [Bool.and_eq_true, Bool.and_eq_true] at h
    have hr := avEq_ok _ _ h.1.1
    have hp := h.1.2
    subst hr
    have key : ∀ U w0, _ := fun U w0 => hC U w0 _ _ _ _ hc
    refine ⟨(key (fun _ => True) default).1, fun U w0 A ls w hl H => Calls.mono ((key U w0).2 A ls w hl H) ?_⟩
    rintro en w' ⟨o, ho, B, h2, ⟨v, h1, h3⟩ | ⟨b, v, h1, _⟩, h4⟩
    · cases List.mem_singleton.1 ho
      exact ⟨B, v, h1, h2, h3, h4.gc h.2⟩
    · cases List.mem_singleton.1 ho
      rw [show e.r = AV.pan b from h1] at hp
      cases hp
  · cases h
def orac : List Ent → Caller
  | [], _, _, _ => none
  | e :: r, f, l, S => bif Nat.beq e.f f && (avsEq l e.l && asEq S (stOf e.i e.nx e.lo)) then some [(e.r, stOf e.o e.nx' e.nx')] else orac r f l S
theorem orac_ok {P : Program} {U : Nat → Prop} {w0 : World} : ∀ {es : List Ent}, (∀ e ∈ es, EntOK P e) → CallsOK P U w0 (orac es)
  | [], _ => fun _ _ _ _ h => by cases h
  | e :: r, H => by
    intro f l S outs h
    unfold orac at h
    cases hb : (Nat.beq e.f f && (avsEq l e.l && asEq S (stOf e.i e.nx e.lo))) with
    | false => rw [hb] at h; exact orac_ok (fun e he => H e (List.mem_cons_of_mem _ he)) f l S outs h
    | true =>
      rw [hb] at h
      cases h
      simp only [Bool.and_eq_true] at hb
      obtain ⟨h1, h2, h3⟩ := hb
      have h1 := beqT h1
      have h2 := avsEq_ok _ _ h2
      have h3 := asEq_ok h3
      subst h1; subst h2; subst h3
      obtain ⟨k1, k2⟩ := H e (List.mem_cons_self ..)
      refine ⟨k1, fun A ls w hl HW => Calls.mono (k2 U w0 A ls w hl HW) ?_⟩
      rintro en w' ⟨B, v, g1, g2, g3, g4⟩
      exact ⟨_, List.mem_singleton.2 rfl, B, g2, .inl ⟨v, g1, g3⟩, g4⟩
/-- Code, its calls by C. -/
def execW (P : Program) (T : Plans) (C : Caller) : Nat → Exec
  | 0 => fun _ _ _ _ _ _ => none
  | k + 1 => execS P T (execW P T C k) C
theorem execW_good {P : Program} {U : Nat → Prop} {w0 : World} {T : Plans} {C : Caller} (hm : P.follows .mixedOrders = true) (hC : CallsOK P U w0 C) : ∀ k, Good P U w0 T (execW P T C k)
  | 0 => fun _ _ _ _ _ _ _ h => (by cases h)
  | k + 1 => execS_good hm (execW_good hm hC k) hC
end Go.V
