/-
  BatchBack returns true for every two lists of bytes and every three numbers, and changes nothing; no condition.
-/
import Derived.Test.YtalieccfdmokmaaRows
import Derived.WalkKit
import Derived.ProofKit
import Derived.OpenShut
import Derived.ShutString
import Derived.Test.YtalieccfdmokmaaVOpen
import Derived.Test.YtalieccfdmokmaaVSized
import Derived.Test.YtalieccfdmokmaaVBtI
import Derived.ChangeOld
import Derived.Below
namespace Go.Proofs.Ytalieccfdmokmaa.batchBack
open Go.ChangeShapes Go.WideShapes Go.ChangeAt Go.RowKit
open Go.ChangeMaps (open_string shut_string)
set_option linter.unusedVariables false
open Go.V

theorem own : ownKnob Try.prog.godebug = none := by kernel_rfl
theorem laidOut : laidOutB Try.prog = true := by kernel_rfl

set_option maxRecDepth 100000 in
theorem lifted (os : Os) (started : os.Started) (H : Type) (enc : TypeId × Value → H) :
    ReturnsInHanded {} Try.checked os 11 .any (Rows.batchBackSpec.pre6 enc Try.prog Try.f11 Rows.batchBackRow.domain false) (Rows.batchBackSpec.post enc Try.prog Try.f11 false true false false) := by
  refine returnsInHanded_of_change_sized (C := Try.checked) own started (by kernel_rfl) Try.func11
    (ChangeSpec.witness6 (enc := enc) (C := Try.checked) false ⟨#[], #[.slice none 0 0, .slice none 0 0, .int .u16 0, .int .u16 0, .int .u8 0], []⟩ 8 (by kernel_rfl) (by kernel_rfl) (by kernel_rfl) (by kernel_rfl)) ?_
  intro W base args ds gs before hval0 hW hcnd hsz0 _
  have hval : ∀ (j : Nat) t v, Try.f11.params[j]? = some t → args[j]? = some v → Value.okWide Try.prog W .any base t v := hval0
  have hW' := hW
  obtain ⟨p, q, hA0, hV, rfl, hfz, hnd⟩ := hW
  have hA : DataW.TrodAll enc Try.prog W 0 (fun _ => true) true Try.f11.params.toList args.toList ds p := hA0
  have hsz : (DataW.weightsEach Try.prog (Try.f11.params.toList ++ Rows.batchBackSpec.plain.varTypes Try.prog) (ds ++ gs)).all (· ≤ reachBytes) = true := hsz0
  rw [Try.params11] at hA hval hsz
  obtain ⟨v0, vs0, d0, ds0, p0, q0, hargs, rfl, rfl, h0, tr0⟩ := trodAll_cons hA
  obtain ⟨v1, vs1, d1, ds1, p1, q1, rfl, rfl, rfl, h1, tr1⟩ := trodAll_cons tr0
  obtain ⟨v2, vs2, d2, ds2, p2, q2, rfl, rfl, rfl, h2, tr2⟩ := trodAll_cons tr1
  obtain ⟨v3, vs3, d3, ds3, p3, q3, rfl, rfl, rfl, h3, tr3⟩ := trodAll_cons tr2
  obtain ⟨v4, vs4, d4, ds4, p4, q4, rfl, rfl, rfl, h4, tr4⟩ := trodAll_cons tr3
  obtain ⟨rfl, rfl, rfl⟩ := trodAll_nil tr4
  obtain rfl : args = #[v0, v1, v2, v3, v4] := by cases args; simp_all
  obtain ⟨rfl, rfl⟩ := trodVars_none hV
  have k0 := h0
  have lt0 : ∀ x ∈ p0, x.block < W.heap.size := by obtain ⟨m, hm⟩ := k0; exact DataW.trod_lt m _ _ _ hm
  obtain ⟨xs0, r0, g0⟩ := open_rows (β := UInt8) Try.underlying22 (opens_u8 Try.underlying5) (by kernel_rfl) (hval 0 22 v0 rfl rfl) h0
  have k1 := h1
  have lt1 : ∀ x ∈ p1, x.block < W.heap.size := by obtain ⟨m, hm⟩ := k1; exact DataW.trod_lt m _ _ _ hm
  obtain ⟨xs1, r1, g1⟩ := open_rows (β := UInt8) Try.underlying22 (opens_u8 Try.underlying5) (by kernel_rfl) (hval 1 22 v1 rfl rfl) h1
  obtain ⟨a2, rfl, rfl, rfl, w2⟩ := open_int Try.underlying40 (hval 2 40 v2 rfl rfl) h2
  have b2 : 0 ≤ a2 ∧ a2 ≤ 65535 := by have h := w2; simp [Lit.wf, IntKind.min, IntKind.max, IntKind.bits, IntKind.signed] at h; omega
  obtain ⟨a3, rfl, rfl, rfl, w3⟩ := open_int Try.underlying40 (hval 3 40 v3 rfl rfl) h3
  have b3 : 0 ≤ a3 ∧ a3 ≤ 65535 := by have h := w3; simp [Lit.wf, IntKind.min, IntKind.max, IntKind.bits, IntKind.signed] at h; omega
  obtain ⟨a4, rfl, rfl, rfl, w4⟩ := open_int Try.underlying5 (hval 4 5 v4 rfl rfl) h4
  have b4 : 0 ≤ a4 ∧ a4 ≤ 255 := by have h := w4; simp [Lit.wf, IntKind.min, IntKind.max, IntKind.bits, IntKind.signed] at h; omega
  have L0 := sized_rows (j := 0) Try.underlying22 h0 r0 hsz rfl rfl (by decide)
  have L1 := sized_rows (j := 1) Try.underlying22 h1 r1 hsz rfl rfl (by decide)
  clear hA0 hval0
  have hcall : Calls Try.prog 11 #[v0, v1, .int .u16 a2, .int .u16 a3, .int .u8 a4] W fun e w' => e = .returned (.bool true) ∧ Ext0 W w' := by
    exact BatchBack_c a2 a3 a4 W r0 L0 r1 (by omega) (by omega) (by omega) (by omega) (by omega) (by omega)
  refine hcall.mono fun e W' ⟨he, hext⟩ => ?_
  subst he
  have bel := hext.below
  exact ⟨_, rfl, _, _, _, [], _, [], hW', trodAll_mk1 (shut_bool Try.underlying4 _), (trodAll_cons_mk (Below.trod laidOut (by kernel_rfl) (of_decide_eq_true (by kernel_rfl)) k0 bel lt0) (trodAll_cons_mk (Below.trod laidOut (by kernel_rfl) (of_decide_eq_true (by kernel_rfl)) k1 bel lt1) (trodAll_cons_mk (shut_int Try.underlying40 w2) (trodAll_cons_mk (shut_int Try.underlying40 w3) (trodAll_cons_mk (shut_int Try.underlying5 w4) trodAll_mk0))))), rfl, bel.frame _, fun h => by cases h⟩

theorem over : Rows.batchBackRow.holds Try.pinned (OpenSpec.ofChange Rows.batchBackSpec) :=
  OpenClaim.holds_of_wide 11 Try.f11 rfl rfl rfl rfl rfl rfl rfl ⟨rfl, rfl, rfl, rfl, rfl⟩ rfl rfl rfl rfl rfl (by kernel_rfl) Try.func11 (by kernel_rfl)
    (of_decide_eq_true (by kernel_rfl)) (by unfold Func.isWrapper; first | (rw [if_pos (by decide +kernel)]; kernel_rfl) | (rw [if_neg (by decide +kernel)]; exact ⟨rfl, rfl⟩))
    (fun os started H enc _ => lifted os started H enc)

theorem proved : Rows.BatchBackSaid :=
  over
#print axioms proved
end Go.Proofs.Ytalieccfdmokmaa.batchBack
