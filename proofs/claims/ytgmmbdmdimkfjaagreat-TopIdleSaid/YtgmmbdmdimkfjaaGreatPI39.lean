/-
  The closed facts of the row of TopIdle, one by one: the kernel gives its memory back behind each
-/
import Derived.Test.YtgmmbdmdimkfjaaGreatRows
import Derived.Test.YtgmmbdmdimkfjaaGreatChecked
import Derived.JoinedOf
import Derived.ProofKit
namespace Go.Proofs.YtgmmbdmdimkfjaaGreat.topIdle
open Go
set_option maxRecDepth 100000
theorem k1 : (Rows.topIdleRow.wf (OpenSpec.ofChange Rows.topIdleSpec)) = true := by kernel_rfl
theorem k2 : (laidOutB Tryz.pinned.checked.prog) = true := by kernel_rfl
theorem k3 : (mapsRowed Tryz.pinned.checked.prog) = true := by kernel_rfl
theorem k4 : (Tryz.f5.params.all (Tryz.pinned.checked.prog.readableRec ·)) = true := by kernel_rfl
theorem k5 : (namedTie Tryz.pinned.checked.prog Rows.topIdleRow.named Rows.topIdleSpec.vars) = true := by kernel_rfl
theorem k6 : ((Rows.topIdleRow.stops == [])) = true := by kernel_rfl
theorem k7 : ((Tryz.pinned.checked.prog.stops == [])) = true := by kernel_rfl
theorem k8 : ((Rows.topIdleRow.knobs == [])) = true := by kernel_rfl
theorem k9 : ((Tryz.pinned.checked.prog.stopKnobs == [])) = true := by kernel_rfl
theorem k10 : ((Rows.topIdleRow.inPlace == Tryz.pinned.checked.prog.inPlace 5)) = true := by kernel_rfl
theorem k11 : ((Rows.topIdleRow.unfollowed == Tryz.pinned.checked.prog.unfollowed 5)) = true := by kernel_rfl
theorem k12 : ((Rows.topIdleRow.recurses == Tryz.pinned.checked.prog.recurses 5)) = true := by kernel_rfl
theorem k13 : ((Rows.topIdleRow.named == Tryz.pinned.checked.prog.varsNamed 5)) = true := by kernel_rfl
theorem k14 : ((Rows.topIdleRow.maps == (Tryz.f5.params.toList ++ Rows.topIdleSpec.plain.varTypes Tryz.pinned.checked.prog).any (Tryz.pinned.checked.prog.mapsRec ·))) = true := by kernel_rfl
theorem k15 : ((Rows.topIdleRow.ifaces == (Tryz.f5.params.toList ++ Rows.topIdleSpec.plain.varTypes Tryz.pinned.checked.prog).any (Tryz.pinned.checked.prog.ifacesRec ·))) = true := by kernel_rfl
theorem k16 : ((Rows.topIdleRow.mapsOut == Tryz.pinned.checked.prog.mapsAmong Tryz.f5.resultTypes.toList)) = true := by kernel_rfl
theorem k17 : ((Rows.topIdleRow.loops == (Tryz.f5.params.toList ++ Rows.topIdleSpec.plain.varTypes Tryz.pinned.checked.prog).any (Tryz.pinned.checked.prog.loopsFrom ·))) = true := by kernel_rfl
theorem k18 : ((Rows.topIdleRow.wideKeys == (Tryz.f5.params.toList ++ Rows.topIdleSpec.plain.varTypes Tryz.pinned.checked.prog ++ Tryz.f5.resultTypes.toList).any (Tryz.pinned.checked.prog.wideKeysFrom ·))) = true := by kernel_rfl
theorem k19 : (Rows.topIdleSpec.vars.all (Tryz.pinned.checked.prog.varReadable ·)) = true := by kernel_rfl
theorem k20 : (Tryz.f5.resultTypes.all (fun t => Tryz.pinned.checked.prog.readableRec t && decide (t < Tryz.pinned.checked.prog.types.size))) = true := by kernel_rfl
theorem k21 : ((Rows.topIdleRow.ifacesOut == Tryz.f5.resultTypes.toList.any (Tryz.pinned.checked.prog.ifacesRec ·))) = true := by kernel_rfl
theorem k22 : ((Rows.topIdleRow.loopsOut == Tryz.f5.resultTypes.toList.any (Tryz.pinned.checked.prog.loopsFrom ·))) = true := by kernel_rfl
theorem k23 : ((Rows.topIdleRow.plainKeys == Tryz.pinned.checked.prog.plainKeys)) = true := by kernel_rfl
theorem k24 : (Rows.topIdleRow.shortTexts.isNone) = true := by kernel_rfl
theorem k25 : (Tryz.pinned.checked.prog.stopsHeard) = true := by kernel_rfl
theorem k26 : (Tryz.pinned.checked.prog.mayEnter) = true := by kernel_rfl
theorem k27 : ((Rows.topIdleRow.lifted == Tryz.pinned.checked.prog.liftsFinal)) = true := by kernel_rfl
theorem k28 : ((Tryz.pinned.checked.prog.make == some Rows.topIdleRow.make)) = true := by kernel_rfl
theorem k29 : ((Rows.topIdleRow.kinds == (if Rows.topIdleRow.domain.isEmpty then [] else Tryz.f5.params.toList.map fun t => match Tryz.pinned.checked.prog.underlying t with | some (.int k) => some k | _ => none))) = true := by kernel_rfl
theorem k30 : ((Rows.topIdleRow.pinned == Rows.topIdleRow.pinnedBy)) = true := by kernel_rfl
theorem k31 : ((Rows.topIdleRow.veiled == (Tryz.f5.params.toList ++ Rows.topIdleSpec.plain.varTypes Tryz.pinned.checked.prog ++ Tryz.f5.resultTypes.toList).any (Tryz.pinned.checked.prog.veiledRec ·))) = true := by kernel_rfl
theorem k32 : (Rows.topIdleRow.veiledFits Tryz.pinned.checked.prog Tryz.f5.params.toList (Tryz.f5.params.toList ++ Rows.topIdleSpec.plain.varTypes Tryz.pinned.checked.prog ++ Tryz.f5.resultTypes.toList)) = true := by kernel_rfl
theorem closed : joinedFacts Tryz.pinned.checked.prog 5 Tryz.f5 Rows.topIdleSpec Rows.topIdleRow = true := (Bool.and_eq_true_iff.2 ⟨(Bool.and_eq_true_iff.2 ⟨(Bool.and_eq_true_iff.2 ⟨(Bool.and_eq_true_iff.2 ⟨(Bool.and_eq_true_iff.2 ⟨(Bool.and_eq_true_iff.2 ⟨(Bool.and_eq_true_iff.2 ⟨(Bool.and_eq_true_iff.2 ⟨(Bool.and_eq_true_iff.2 ⟨(Bool.and_eq_true_iff.2 ⟨(Bool.and_eq_true_iff.2 ⟨(Bool.and_eq_true_iff.2 ⟨(Bool.and_eq_true_iff.2 ⟨(Bool.and_eq_true_iff.2 ⟨(Bool.and_eq_true_iff.2 ⟨(Bool.and_eq_true_iff.2 ⟨(Bool.and_eq_true_iff.2 ⟨(Bool.and_eq_true_iff.2 ⟨(Bool.and_eq_true_iff.2 ⟨(Bool.and_eq_true_iff.2 ⟨(Bool.and_eq_true_iff.2 ⟨(Bool.and_eq_true_iff.2 ⟨(Bool.and_eq_true_iff.2 ⟨(Bool.and_eq_true_iff.2 ⟨(Bool.and_eq_true_iff.2 ⟨(Bool.and_eq_true_iff.2 ⟨(Bool.and_eq_true_iff.2 ⟨(Bool.and_eq_true_iff.2 ⟨(Bool.and_eq_true_iff.2 ⟨(Bool.and_eq_true_iff.2 ⟨(Bool.and_eq_true_iff.2 ⟨k1, k2⟩), k3⟩), k4⟩), k5⟩), k6⟩), k7⟩), k8⟩), k9⟩), k10⟩), k11⟩), k12⟩), k13⟩), k14⟩), k15⟩), k16⟩), k17⟩), k18⟩), k19⟩), k20⟩), k21⟩), k22⟩), k23⟩), k24⟩), k25⟩), k26⟩), k27⟩), k28⟩), k29⟩), k30⟩), k31⟩), k32⟩)
theorem hfn : Tryz.pinned.checked.prog.funcNamed Rows.topIdleRow.func = some 5 := by kernel_rfl
end Go.Proofs.YtgmmbdmdimkfjaaGreat.topIdle
