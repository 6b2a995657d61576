/-
  AcceptBounds returns true for every list of acts, and changes nothing; no condition.
-/
import Derived.Test.YtalieccfdmokmaaRows
import Derived.WalkKit
import Derived.ProofKit
import Derived.OpenShut
import Derived.ShutString
import Derived.Test.YtalieccfdmokmaaVOpen
import Derived.Test.YtalieccfdmokmaaVSized
import Derived.Test.YtalieccfdmokmaaVSizedN
import Derived.Test.YtalieccfdmokmaaVAcH
import Derived.ChangeOld
import Derived.Below
namespace Go.Proofs.Ytalieccfdmokmaa.acceptBounds
open Go.ChangeShapes Go.WideShapes Go.ChangeAt Go.RowKit
open Go.ChangeMaps (open_string shut_string)
set_option linter.unusedVariables false
open Go.V

theorem own : ownKnob Try.prog.godebug = none := by kernel_rfl
theorem laidOut : laidOutB Try.prog = true := by kernel_rfl

set_option maxRecDepth 100000 in
theorem lifted (os : Os) (started : os.Started) (H : Type) (enc : TypeId × Value → H) :
    ReturnsInHanded {} Try.checked os 13 .any (Rows.acceptBoundsSpec.pre6 enc Try.prog Try.f13 Rows.acceptBoundsRow.domain false) (Rows.acceptBoundsSpec.post enc Try.prog Try.f13 false true false false) := by
  refine returnsInHanded_of_change_sized (C := Try.checked) own started (by kernel_rfl) Try.func13
    (ChangeSpec.witness6 (enc := enc) (C := Try.checked) false ⟨#[], #[.slice none 0 0], []⟩ 8 (by kernel_rfl) (by kernel_rfl) (by kernel_rfl) (by kernel_rfl)) ?_
  intro W base args ds gs before hval0 hW hcnd hsz0 _
  have hval : ∀ (j : Nat) t v, Try.f13.params[j]? = some t → args[j]? = some v → Value.okWide Try.prog W .any base t v := hval0
  have hW' := hW
  obtain ⟨p, q, hA0, hV, rfl, hfz, hnd⟩ := hW
  have hA : DataW.TrodAll enc Try.prog W 0 (fun _ => true) true Try.f13.params.toList args.toList ds p := hA0
  have hsz : (DataW.weightsEach Try.prog (Try.f13.params.toList ++ Rows.acceptBoundsSpec.plain.varTypes Try.prog) (ds ++ gs)).all (· ≤ reachBytes) = true := hsz0
  rw [Try.params13] at hA hval hsz
  obtain ⟨v0, vs0, d0, ds0, p0, q0, hargs, rfl, rfl, h0, tr0⟩ := trodAll_cons hA
  obtain ⟨rfl, rfl, rfl⟩ := trodAll_nil tr0
  obtain rfl : args = #[v0] := by cases args; simp_all
  obtain ⟨rfl, rfl⟩ := trodVars_none hV
  have k0 := h0
  have lt0 : ∀ x ∈ p0, x.block < W.heap.size := by obtain ⟨m, hm⟩ := k0; exact DataW.trod_lt m _ _ _ hm
  obtain ⟨xs0, r0, g0⟩ := open_rows (β := Act14) Try.underlying81 Act14.opens (by kernel_rfl) (hval 0 81 v0 rfl rfl) h0
  have L0 := sized_rows (j := 0) Try.underlying81 h0 r0 hsz rfl rfl (by decide)
  have N0_3 := sized_nested (β := UInt8) (j := 0) (i := 3) Try.underlying81 Try.underlying86 rfl Try.underlying22 (by kernel_rfl) (by kernel_rfl) h0 r0 hsz rfl rfl (by decide)
  clear hA0 hval0
  have hcall : Calls Try.prog 13 #[v0] W fun e w' => e = .returned (.bool true) ∧ Ext0 W w' := by
    exact AcceptBounds_c W r0 (fun a ha => (g0 a ha).2.2.2.imp fun _ h => ⟨h.1, N0_3 a ha _ _ _ rfl h.1⟩)
  refine hcall.mono fun e W' ⟨he, hext⟩ => ?_
  subst he
  have bel := hext.below
  exact ⟨_, rfl, _, _, _, [], _, [], hW', trodAll_mk1 (shut_bool Try.underlying4 _), (trodAll_cons_mk (Below.trod laidOut (by kernel_rfl) (of_decide_eq_true (by kernel_rfl)) k0 bel lt0) trodAll_mk0), rfl, bel.frame _, fun h => by cases h⟩

theorem over : Rows.acceptBoundsRow.holds Try.pinned (OpenSpec.ofChange Rows.acceptBoundsSpec) :=
  OpenClaim.holds_of_wide 13 Try.f13 rfl rfl rfl rfl rfl rfl rfl ⟨rfl, rfl, rfl, rfl, rfl⟩ rfl rfl rfl rfl rfl (by kernel_rfl) Try.func13 (by kernel_rfl)
    (of_decide_eq_true (by kernel_rfl)) (by unfold Func.isWrapper; first | (rw [if_pos (by decide +kernel)]; kernel_rfl) | (rw [if_neg (by decide +kernel)]; exact ⟨rfl, rfl⟩))
    (fun os started H enc _ => lifted os started H enc)

theorem proved : Rows.AcceptBoundsSaid :=
  over
#print axioms proved
end Go.Proofs.Ytalieccfdmokmaa.acceptBounds
