/-
  LearnStays returns true for every list of acts, every byte and every list of bytes, and changes nothing; no condition.
-/
import Derived.Test.YtalieccfdmokmaaRows
import Derived.WalkKit
import Derived.ProofKit
import Derived.OpenShut
import Derived.ShutString
import Derived.Test.YtalieccfdmokmaaVOpen
import Derived.Test.YtalieccfdmokmaaVSized
import Derived.Test.YtalieccfdmokmaaVSizedN
import Derived.Test.YtalieccfdmokmaaVLeH
import Derived.ChangeOld
import Derived.Below
namespace Go.Proofs.Ytalieccfdmokmaa.learnStays
open Go.ChangeShapes Go.WideShapes Go.ChangeAt Go.RowKit
open Go.ChangeMaps (open_string shut_string)
set_option linter.unusedVariables false
open Go.V

theorem own : ownKnob Try.prog.godebug = none := by kernel_rfl
theorem laidOut : laidOutB Try.prog = true := by kernel_rfl

set_option maxRecDepth 100000 in
theorem lifted (os : Os) (started : os.Started) (H : Type) (enc : TypeId × Value → H) :
    ReturnsInHanded {} Try.checked os 8 .any (Rows.learnStaysSpec.pre6 enc Try.prog Try.f8 Rows.learnStaysRow.domain false) (Rows.learnStaysSpec.post enc Try.prog Try.f8 false true false false) := by
  refine returnsInHanded_of_change_sized (C := Try.checked) own started (by kernel_rfl) Try.func8
    (ChangeSpec.witness6 (enc := enc) (C := Try.checked) false ⟨#[], #[.slice none 0 0, .int .u8 0, .slice none 0 0], []⟩ 8 (by kernel_rfl) (by kernel_rfl) (by kernel_rfl) (by kernel_rfl)) ?_
  intro W base args ds gs before hval0 hW hcnd hsz0 _
  have hval : ∀ (j : Nat) t v, Try.f8.params[j]? = some t → args[j]? = some v → Value.okWide Try.prog W .any base t v := hval0
  have hW' := hW
  obtain ⟨p, q, hA0, hV, rfl, hfz, hnd⟩ := hW
  have hA : DataW.TrodAll enc Try.prog W 0 (fun _ => true) true Try.f8.params.toList args.toList ds p := hA0
  have hsz : (DataW.weightsEach Try.prog (Try.f8.params.toList ++ Rows.learnStaysSpec.plain.varTypes Try.prog) (ds ++ gs)).all (· ≤ reachBytes) = true := hsz0
  rw [Try.params8] at hA hval hsz
  obtain ⟨v0, vs0, d0, ds0, p0, q0, hargs, rfl, rfl, h0, tr0⟩ := trodAll_cons hA
  obtain ⟨v1, vs1, d1, ds1, p1, q1, rfl, rfl, rfl, h1, tr1⟩ := trodAll_cons tr0
  obtain ⟨v2, vs2, d2, ds2, p2, q2, rfl, rfl, rfl, h2, tr2⟩ := trodAll_cons tr1
  obtain ⟨rfl, rfl, rfl⟩ := trodAll_nil tr2
  obtain rfl : args = #[v0, v1, v2] := by cases args; simp_all
  obtain ⟨rfl, rfl⟩ := trodVars_none hV
  have k0 := h0
  have lt0 : ∀ x ∈ p0, x.block < W.heap.size := by obtain ⟨m, hm⟩ := k0; exact DataW.trod_lt m _ _ _ hm
  obtain ⟨xs0, r0, g0⟩ := open_rows (β := Act15) Try.underlying63 Act15.opens (by kernel_rfl) (hval 0 63 v0 rfl rfl) h0
  obtain ⟨a1, rfl, rfl, rfl, w1⟩ := open_int Try.underlying5 (hval 1 5 v1 rfl rfl) h1
  have b1 : 0 ≤ a1 ∧ a1 ≤ 255 := by have h := w1; simp [Lit.wf, IntKind.min, IntKind.max, IntKind.bits, IntKind.signed] at h; omega
  have k2 := h2
  have lt2 : ∀ x ∈ p2, x.block < W.heap.size := by obtain ⟨m, hm⟩ := k2; exact DataW.trod_lt m _ _ _ hm
  obtain ⟨xs2, r2, g2⟩ := open_rows (β := UInt8) Try.underlying22 (opens_u8 Try.underlying5) (by kernel_rfl) (hval 2 22 v2 rfl rfl) h2
  have L0 := sized_rows (j := 0) Try.underlying63 h0 r0 hsz rfl rfl (by decide)
  have L2 := sized_rows (j := 2) Try.underlying22 h2 r2 hsz rfl rfl (by decide)
  have N0_3 := sized_nested (β := UInt8) (j := 0) (i := 3) Try.underlying63 Try.underlying67 rfl Try.underlying22 (by kernel_rfl) (by kernel_rfl) h0 r0 hsz rfl rfl (by decide)
  clear hA0 hval0
  have hcall : Calls Try.prog 8 #[v0, .int .u8 a1, v2] W fun e w' => e = .returned (.bool true) ∧ Ext0 W w' := by
    exact LearnStays_c a1 W r0 r2 L2 (by omega) (by omega) (fun a ha => (g0 a ha).2.2.2.1.imp fun _ h => ⟨h.1, N0_3 a ha _ _ _ rfl h.1⟩)
  refine hcall.mono fun e W' ⟨he, hext⟩ => ?_
  subst he
  have bel := hext.below
  exact ⟨_, rfl, _, _, _, [], _, [], hW', trodAll_mk1 (shut_bool Try.underlying4 _), (trodAll_cons_mk (Below.trod laidOut (by kernel_rfl) (of_decide_eq_true (by kernel_rfl)) k0 bel lt0) (trodAll_cons_mk (shut_int Try.underlying5 w1) (trodAll_cons_mk (Below.trod laidOut (by kernel_rfl) (of_decide_eq_true (by kernel_rfl)) k2 bel lt2) trodAll_mk0))), rfl, bel.frame _, fun h => by cases h⟩

theorem over : Rows.learnStaysRow.holds Try.pinned (OpenSpec.ofChange Rows.learnStaysSpec) :=
  OpenClaim.holds_of_wide 8 Try.f8 rfl rfl rfl rfl rfl rfl rfl ⟨rfl, rfl, rfl, rfl, rfl⟩ rfl rfl rfl rfl rfl (by kernel_rfl) Try.func8 (by kernel_rfl)
    (of_decide_eq_true (by kernel_rfl)) (by unfold Func.isWrapper; first | (rw [if_pos (by decide +kernel)]; kernel_rfl) | (rw [if_neg (by decide +kernel)]; exact ⟨rfl, rfl⟩))
    (fun os started H enc _ => lifted os started H enc)

theorem proved : Rows.LearnStaysSaid :=
  over
#print axioms proved
end Go.Proofs.Ytalieccfdmokmaa.learnStays
