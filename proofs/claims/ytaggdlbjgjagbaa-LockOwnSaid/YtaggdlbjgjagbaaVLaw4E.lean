/-
  The walks of layer 4's laws: names, commands and requests by numbers.
-/
import Derived.Test.YtaggdlbjgjagbaaVMNamed
import Derived.Test.YtaggdlbjgjagbaaVCell
import Derived.Test.YtaggdlbjgjagbaaVPlA
namespace Go.Proofs.Ytaggdlbjgjagbaa
set_option linter.unusedSimpArgs false
set_option linter.unusedVariables false
set_option maxRecDepth 20000
open Go.V Go.RowKit Go.ChangeShapes Go.WideShapes

theorem Named_c (m : Int) (w : World) (hm : 0 ≤ m) (hm2 : m < 256) :
    Calls Try.prog 29 #[.int .u8 m] w fun e w' => e = .returned (.string (nameOf m)) ∧ Ext0 w w' := by
  refine calls_of_CW Try.func29 rfl Try.ntmps29 (Nat.le_of_ble_eq_true rfl) ?_
  simp only [argE, argFrom, Nat.reduceAdd]
  refine CW.seq (fun K1 h1 => ?_)
  refine CW.region ?_
  refine r_assign rfl ?_
  refine LW.nil ?_
  refine thenE_norm (h1 _ _ ?_); clear h1; try clear K1
  refine CW.seq (fun K2 h2 => ?_)
  refine CW.region ?_
  refine r_buildSlice rfl Try.underlying80 Try.sizeOf9 Try.zeroValue9 rfl rfl rfl rfl ?_
  intro b1_0 w1_0 hb1_0 hs1_0 hE1_0 hB1_0
  have hB : Blk w1_0 b1_0 9 (names6.map fun l => Value.string ⟨l.toArray⟩) := hB1_0
  have hm6 := six m hm
  have hcell : (names6.map fun l => Value.string ⟨l.toArray⟩)[(m % 6).toNat]? = some (.string (nameOf m)) := by
    unfold nameOf
    rcases hm6 with h | h | h | h | h | h <;> rw [h] <;> rfl
  refine r_move rfl ?_
  refine r_convI rfl Try.underlying5 Try.underlying3 rfl (wr_i64 (by omega) (by omega)) ?_
  refine r_rem rfl rfl rfl (by omega) (by omega) (wr_i64 (by omega) (by omega)) ?_
  refine r_indexAddr rfl Try.underlying80 Try.sizeOf9 rfl rfl (by omega) (by omega) ?_
  refine r_load rfl Try.isAgg9 rfl (hB.cell (o := 0 + (m % 6).toNat * 1) (by rw [Nat.zero_add, Nat.mul_one]; exact hcell)) ?_
  refine r_assign rfl ?_
  refine LW.nil ?_
  refine thenE_norm ?_
  refine cut (K := K2) [2] (fun σ => ?_)
  simp only [setL, keepE, upd_get, ev, Nat.reduceEqDiff, ↓reduceIte]
  refine h2 _ _ ?_; clear h2; try clear K2
  refine CW.ret (ret1 Try.results29 (by simp only [upd_get, ev, Nat.reduceEqDiff, ↓reduceIte]; rfl) ?_)
  exact ⟨rfl, hE1_0⟩

end Go.Proofs.Ytaggdlbjgjagbaa
