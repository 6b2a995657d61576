/-
  awake answers true, whatever the world: all blocks that were there stay as they were
-/
import Derived.Test.YtgmmbdmdimkfjaaGreatPI16
import Derived.Test.YtgmmbdmdimkfjaaGreatPI17
import Derived.Test.YtgmmbdmdimkfjaaGreatPI18
import Derived.Test.YtgmmbdmdimkfjaaGreatPI19
import Derived.Test.YtgmmbdmdimkfjaaGreatPI20
namespace Go.Proofs.YtgmmbdmdimkfjaaGreat
set_option linter.unusedSimpArgs false
set_option linter.unusedVariables false
set_option maxRecDepth 100000
open Go.V Go.RowKit
theorem mixed : Tryz.prog.follows .mixedOrders = true := by kernel_rfl
theorem entOK {e : Ent} (h : chkE Tryz.prog e = true) : EntOK Tryz.prog e := EntOK.of (fun U w0 => (execN_ok mixed funsOK 3000).2) h
theorem entsOK : ∀ e ∈ ents, EntOK Tryz.prog e := by
  intro e he
  simp only [ents, List.mem_cons, List.not_mem_nil, or_false] at he
  rcases he with rfl | rfl | rfl | rfl | rfl | rfl | rfl | rfl | rfl | rfl | rfl | rfl | rfl | rfl | rfl | rfl | rfl | rfl | rfl | rfl | rfl | rfl
  · exact entOK ck0
  · exact entOK ck1
  · exact entOK ck2
  · exact entOK ck3
  · exact entOK ck4
  · exact entOK ck5
  · exact entOK ck6
  · exact entOK ck7
  · exact entOK ck8
  · exact entOK ck9
  · exact entOK ck10
  · exact entOK ck11
  · exact entOK ck12
  · exact entOK ck13
  · exact entOK ck14
  · exact entOK ck15
  · exact entOK ck16
  · exact entOK ck17
  · exact entOK ck18
  · exact entOK ck19
  · exact entOK ck20
  · exact entOK ck21
theorem awake_eval : (match callA Tryz.prog (funF Tryz.prog) maskF (execW Tryz.prog plansF (orac ents) 200) (orac ents) 11 [] ⟨.nil, 0, 0, []⟩ with
  | some [(.bool true, _)] => true
  | _ => false) = true := by kernel_rfl
/-- awake: true. -/
theorem awake_c (w : World) : Calls Tryz.prog 11 #[] w fun e w' => e = .returned (.bool true) ∧ Ext0 w w' := by
  have hO : ∀ w0, CallsOK Tryz.prog Non w0 (orac ents) := fun w0 => orac_ok entsOK
  have hC := callA_ok (F := funF Tryz.prog) (M := maskF) funsOK (execW_good (T := plansF) mixed (hO w) 200) (hO w)
  have he := awake_eval
  split at he
  · rename_i S' h
    refine Calls.mono ((hC _ _ _ _ h).2 ⟨fun _ => none, fun _ => 0⟩ [] w (RVs.nil _) (RW.start Non w _ 0 [] (fun p hp => by cases hp))) ?_
    rintro e w' ⟨o, ho, B, h1, ⟨v, rfl, h2⟩ | ⟨b, v, h2, _⟩, h3⟩
    · cases List.mem_singleton.1 ho
      simp only [RV] at h2
      rw [h2]
      exact ⟨rfl, h3.ext⟩
    · cases List.mem_singleton.1 ho
      cases h2
  · cases he
end Go.Proofs.YtgmmbdmdimkfjaaGreat
