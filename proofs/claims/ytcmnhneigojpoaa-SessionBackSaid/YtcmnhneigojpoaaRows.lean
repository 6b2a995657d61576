/-
  No cell of these rows narrows 'for every input' (looked for: loops, veiled, ifaces, maps, wideKeys, modest, calm, conditions, laid).
  DERIVED. THE GIVEN ROWS OF THIS SEAT. 9 by the template 'for every input the law returns true; each argument reads behind the call as it read before'; 0 by the template 'total and deterministic' (their statements: YtcmnhneigojpoaaTotals.lean).
  GIVEN WITH THE SEED: the statements are not yours to turn. If you find one false, say at which input.
  Laid BY PROGRAM, IN A SANDBOX (cutbox-rows.mjs): the forced cells as the released guide's own fill.sh prints them over the translation ba6c450f39438e1b… (all of the seat's roots in one cut). By AI agents, Wed Nov 11 2026. No macro, syntax, notation, axiom, sorry.
-/
import Derived.Test.YtcmnhneigojpoaaChecked
import GoSem.Claim
import GoSem.ClaimJoined
import GoSem.ClaimMapViews
import Derived.JoinedTies
import Derived.KernelRfl
namespace Go.Proofs.Ytcmnhneigojpoaa
/- THE CELL 'sum', in the pinned program and in every row, IS THE sha256 OF THE DUMP (.gsa) THAT YtcmnhneigojpoaaProg.lean LOADS. Nothing in Lean hashes anything: it is a label: what it is worth is what the hold of that sum in a sandbox is worth. -/
noncomputable def Try.pinned : Pinned := { name := "ytcmnhneigojpoaa", sum := "ba6c450f39438e1bfcea57085f711dc7fcc8a2cc22b509f2673265e499c5ebdb", checked := Try.checked }
namespace Rows
def none {H : Type} : Left H := { results := [], args := [] }

/-- 'padlocklaw26.NetTakes': WHATEVER THE INPUT: true; the input reads as it did. -/
def netTakesSpec : ChangeSpec := { name := "netTakes", fn := fun _ => fun
  | [d1, d2] => { results := [.lit (.bool true)], args := [d1, d2] }
  | _ => none }
def netTakesRow : OpenClaim := { program := "ytcmnhneigojpoaa", sum := "ba6c450f39438e1bfcea57085f711dc7fcc8a2cc22b509f2673265e499c5ebdb", func := "padlock/padlocklaw26.NetTakes", spec := "netTakes", apart := false }
def NetTakesSaid : Prop := netTakesRow.holds Try.pinned (OpenSpec.ofChange netTakesSpec)

/-- ITS FALSE NEIGHBOUR: 'it returns false'. Refute it at one input. -/
def netTakesWrong : ChangeSpec := { name := "netTakes", fn := fun _ => fun
  | [d1, d2] => { results := [.lit (.bool false)], args := [d1, d2] }
  | _ => none }
def NetTakesWrongFalsely : Prop := netTakesRow.holds Try.pinned (OpenSpec.ofChange netTakesWrong)

/-- 'padlocklaw26.NetOwn': WHATEVER THE INPUT: true; the input reads as it did. -/
def netOwnSpec : ChangeSpec := { name := "netOwn", fn := fun _ => fun
  | [d1, d2] => { results := [.lit (.bool true)], args := [d1, d2] }
  | _ => none }
def netOwnRow : OpenClaim := { program := "ytcmnhneigojpoaa", sum := "ba6c450f39438e1bfcea57085f711dc7fcc8a2cc22b509f2673265e499c5ebdb", func := "padlock/padlocklaw26.NetOwn", spec := "netOwn", apart := false }
def NetOwnSaid : Prop := netOwnRow.holds Try.pinned (OpenSpec.ofChange netOwnSpec)

/-- ITS FALSE NEIGHBOUR: 'it returns false'. Refute it at one input. -/
def netOwnWrong : ChangeSpec := { name := "netOwn", fn := fun _ => fun
  | [d1, d2] => { results := [.lit (.bool false)], args := [d1, d2] }
  | _ => none }
def NetOwnWrongFalsely : Prop := netOwnRow.holds Try.pinned (OpenSpec.ofChange netOwnWrong)

/-- 'padlocklaw26.NetRuns': WHATEVER THE INPUT: true; the input reads as it did. -/
def netRunsSpec : ChangeSpec := { name := "netRuns", fn := fun _ => fun
  | [d1, d2] => { results := [.lit (.bool true)], args := [d1, d2] }
  | _ => none }
def netRunsRow : OpenClaim := { program := "ytcmnhneigojpoaa", sum := "ba6c450f39438e1bfcea57085f711dc7fcc8a2cc22b509f2673265e499c5ebdb", func := "padlock/padlocklaw26.NetRuns", spec := "netRuns", apart := false }
def NetRunsSaid : Prop := netRunsRow.holds Try.pinned (OpenSpec.ofChange netRunsSpec)

/-- ITS FALSE NEIGHBOUR: 'it returns false'. Refute it at one input. -/
def netRunsWrong : ChangeSpec := { name := "netRuns", fn := fun _ => fun
  | [d1, d2] => { results := [.lit (.bool false)], args := [d1, d2] }
  | _ => none }
def NetRunsWrongFalsely : Prop := netRunsRow.holds Try.pinned (OpenSpec.ofChange netRunsWrong)

/-- 'padlocklaw26.NetRoom': WHATEVER THE INPUT: true; the input reads as it did. -/
def netRoomSpec : ChangeSpec := { name := "netRoom", fn := fun _ => fun
  | [d1, d2, d3] => { results := [.lit (.bool true)], args := [d1, d2, d3] }
  | _ => none }
def netRoomRow : OpenClaim := { program := "ytcmnhneigojpoaa", sum := "ba6c450f39438e1bfcea57085f711dc7fcc8a2cc22b509f2673265e499c5ebdb", func := "padlock/padlocklaw26.NetRoom", spec := "netRoom", apart := false }
def NetRoomSaid : Prop := netRoomRow.holds Try.pinned (OpenSpec.ofChange netRoomSpec)

/-- ITS FALSE NEIGHBOUR: 'it returns false'. Refute it at one input. -/
def netRoomWrong : ChangeSpec := { name := "netRoom", fn := fun _ => fun
  | [d1, d2, d3] => { results := [.lit (.bool false)], args := [d1, d2, d3] }
  | _ => none }
def NetRoomWrongFalsely : Prop := netRoomRow.holds Try.pinned (OpenSpec.ofChange netRoomWrong)

/-- 'padlocklaw6.SessionDue': WHATEVER THE INPUT: true; the input reads as it did. -/
def sessionDueSpec : ChangeSpec := { name := "sessionDue", fn := fun _ => fun
  | [d1, d2, d3, d4, d5] => { results := [.lit (.bool true)], args := [d1, d2, d3, d4, d5] }
  | _ => none }
def sessionDueRow : OpenClaim := { program := "ytcmnhneigojpoaa", sum := "ba6c450f39438e1bfcea57085f711dc7fcc8a2cc22b509f2673265e499c5ebdb", func := "padlock/padlocklaw6.SessionDue", spec := "sessionDue", inPlace := ["slices.overlaps[padlock/api.Session]"], unfollowed := true, recurses := true, apart := false }
def SessionDueSaid : Prop := sessionDueRow.holds Try.pinned (OpenSpec.ofChange sessionDueSpec)

/-- ITS FALSE NEIGHBOUR: 'it returns false'. Refute it at one input. -/
def sessionDueWrong : ChangeSpec := { name := "sessionDue", fn := fun _ => fun
  | [d1, d2, d3, d4, d5] => { results := [.lit (.bool false)], args := [d1, d2, d3, d4, d5] }
  | _ => none }
def SessionDueWrongFalsely : Prop := sessionDueRow.holds Try.pinned (OpenSpec.ofChange sessionDueWrong)

/-- 'padlocklaw6.SessionRefuses': WHATEVER THE INPUT: true; the input reads as it did. -/
def sessionRefusesSpec : ChangeSpec := { name := "sessionRefuses", fn := fun _ => fun
  | [d1, d2, d3, d4] => { results := [.lit (.bool true)], args := [d1, d2, d3, d4] }
  | _ => none }
def sessionRefusesRow : OpenClaim := { program := "ytcmnhneigojpoaa", sum := "ba6c450f39438e1bfcea57085f711dc7fcc8a2cc22b509f2673265e499c5ebdb", func := "padlock/padlocklaw6.SessionRefuses", spec := "sessionRefuses", inPlace := ["slices.overlaps[padlock/api.Session]"], unfollowed := true, recurses := true, apart := false }
def SessionRefusesSaid : Prop := sessionRefusesRow.holds Try.pinned (OpenSpec.ofChange sessionRefusesSpec)

/-- ITS FALSE NEIGHBOUR: 'it returns false'. Refute it at one input. -/
def sessionRefusesWrong : ChangeSpec := { name := "sessionRefuses", fn := fun _ => fun
  | [d1, d2, d3, d4] => { results := [.lit (.bool false)], args := [d1, d2, d3, d4] }
  | _ => none }
def SessionRefusesWrongFalsely : Prop := sessionRefusesRow.holds Try.pinned (OpenSpec.ofChange sessionRefusesWrong)

/-- 'padlocklaw6.SessionRights': WHATEVER THE INPUT: true; the input reads as it did. -/
def sessionRightsSpec : ChangeSpec := { name := "sessionRights", fn := fun _ => fun
  | [d] => { results := [.lit (.bool true)], args := [d] }
  | _ => none }
def sessionRightsRow : OpenClaim := { program := "ytcmnhneigojpoaa", sum := "ba6c450f39438e1bfcea57085f711dc7fcc8a2cc22b509f2673265e499c5ebdb", func := "padlock/padlocklaw6.SessionRights", spec := "sessionRights", inPlace := ["slices.overlaps[padlock/api.Session]"], unfollowed := true, recurses := true, apart := false }
def SessionRightsSaid : Prop := sessionRightsRow.holds Try.pinned (OpenSpec.ofChange sessionRightsSpec)

/-- ITS FALSE NEIGHBOUR: 'it returns false'. Refute it at one input. -/
def sessionRightsWrong : ChangeSpec := { name := "sessionRights", fn := fun _ => fun
  | [d] => { results := [.lit (.bool false)], args := [d] }
  | _ => none }
def SessionRightsWrongFalsely : Prop := sessionRightsRow.holds Try.pinned (OpenSpec.ofChange sessionRightsWrong)

/-- 'padlocklaw6.SessionRuns': WHATEVER THE INPUT: true; the input reads as it did. -/
def sessionRunsSpec : ChangeSpec := { name := "sessionRuns", fn := fun _ => fun
  | [d1, d2, d3, d4] => { results := [.lit (.bool true)], args := [d1, d2, d3, d4] }
  | _ => none }
def sessionRunsRow : OpenClaim := { program := "ytcmnhneigojpoaa", sum := "ba6c450f39438e1bfcea57085f711dc7fcc8a2cc22b509f2673265e499c5ebdb", func := "padlock/padlocklaw6.SessionRuns", spec := "sessionRuns", inPlace := ["slices.overlaps[padlock/api.Session]"], unfollowed := true, recurses := true, apart := false }
def SessionRunsSaid : Prop := sessionRunsRow.holds Try.pinned (OpenSpec.ofChange sessionRunsSpec)

/-- ITS FALSE NEIGHBOUR: 'it returns false'. Refute it at one input. -/
def sessionRunsWrong : ChangeSpec := { name := "sessionRuns", fn := fun _ => fun
  | [d1, d2, d3, d4] => { results := [.lit (.bool false)], args := [d1, d2, d3, d4] }
  | _ => none }
def SessionRunsWrongFalsely : Prop := sessionRunsRow.holds Try.pinned (OpenSpec.ofChange sessionRunsWrong)

/-- 'padlocklaw6.SessionBack': WHATEVER THE INPUT: true; the input reads as it did. -/
def sessionBackSpec : ChangeSpec := { name := "sessionBack", fn := fun _ => fun
  | [d1, d2, d3] => { results := [.lit (.bool true)], args := [d1, d2, d3] }
  | _ => none }
def sessionBackRow : OpenClaim := { program := "ytcmnhneigojpoaa", sum := "ba6c450f39438e1bfcea57085f711dc7fcc8a2cc22b509f2673265e499c5ebdb", func := "padlock/padlocklaw6.SessionBack", spec := "sessionBack", inPlace := ["slices.overlaps[padlock/api.Session]"], unfollowed := true, recurses := true, apart := false }
def SessionBackSaid : Prop := sessionBackRow.holds Try.pinned (OpenSpec.ofChange sessionBackSpec)

/-- ITS FALSE NEIGHBOUR: 'it returns false'. Refute it at one input. -/
def sessionBackWrong : ChangeSpec := { name := "sessionBack", fn := fun _ => fun
  | [d1, d2, d3] => { results := [.lit (.bool false)], args := [d1, d2, d3] }
  | _ => none }
def SessionBackWrongFalsely : Prop := sessionBackRow.holds Try.pinned (OpenSpec.ofChange sessionBackWrong)

/- THE SECOND FORM. 'bulk': how many values and letters a reading holds, each counted each time it is reached (what is shared counts as often as it is met; a slice's spare places count too). A statement '..UptoSaid' is the law's where the arguments, and the package variables that the reading takes, are together of bulk at most 1048576: NARROWER than '..Said'. Prove '..Said' where nothing that the law and all that it calls make is longer than what came in: it says more and counts as full. Else prove '..UptoSaid'. A law counts once. -/
mutual
def uptoBulk {H : Type} : DataW H → Nat
  | .lit (.string bytes) => bytes.length + 1
  | .lit _ => 1
  | .nil => 1
  | .ptr d => uptoBulk d + 1
  | .slice elems spare => uptoBulkAll elems + uptoBulkAll spare + 1
  | .agg parts => uptoBulkAll parts + 1
  | .iface _ d => uptoBulk d + 1
  | .map entries => uptoBulkEntries entries + 1
  | .held _ => 1
def uptoBulkAll {H : Type} : List (DataW H) → Nat
  | [] => 0
  | d :: r => uptoBulk d + uptoBulkAll r
def uptoBulkEntries {H : Type} : List (Lit × DataW H) → Nat
  | [] => 0
  | x :: r => uptoBulkEntry x + uptoBulkEntries r
def uptoBulkEntry {H : Type} : Lit × DataW H → Nat
  | (.string bytes, d) => bytes.length + uptoBulk d + 1
  | (_, d) => uptoBulk d + 1
 end
def uptoSmall : (H : Type) → List (DataW H) → Bool := fun _ ds => decide (uptoBulkAll ds ≤ 1048576)
def OpenSpec.upto (s : _root_.Go.ChangeSpec) : _root_.Go.OpenSpec := { _root_.Go.OpenSpec.ofChange s with cond := some uptoSmall }

/-- 'padlocklaw26.NetTakes', WHERE WHAT IT READS IS OF BULK AT MOST 1048576: true; the input reads as it did. -/
def netTakesUptoRow : OpenClaim := { program := "ytcmnhneigojpoaa", sum := "ba6c450f39438e1bfcea57085f711dc7fcc8a2cc22b509f2673265e499c5ebdb", func := "padlock/padlocklaw26.NetTakes", spec := "netTakes", apart := false, narrowed := true }
def NetTakesUptoSaid : Prop := netTakesUptoRow.holds Try.pinned (OpenSpec.upto netTakesSpec)

/-- 'padlocklaw26.NetOwn', WHERE WHAT IT READS IS OF BULK AT MOST 1048576: true; the input reads as it did. -/
def netOwnUptoRow : OpenClaim := { program := "ytcmnhneigojpoaa", sum := "ba6c450f39438e1bfcea57085f711dc7fcc8a2cc22b509f2673265e499c5ebdb", func := "padlock/padlocklaw26.NetOwn", spec := "netOwn", apart := false, narrowed := true }
def NetOwnUptoSaid : Prop := netOwnUptoRow.holds Try.pinned (OpenSpec.upto netOwnSpec)

/-- 'padlocklaw26.NetRuns', WHERE WHAT IT READS IS OF BULK AT MOST 1048576: true; the input reads as it did. -/
def netRunsUptoRow : OpenClaim := { program := "ytcmnhneigojpoaa", sum := "ba6c450f39438e1bfcea57085f711dc7fcc8a2cc22b509f2673265e499c5ebdb", func := "padlock/padlocklaw26.NetRuns", spec := "netRuns", apart := false, narrowed := true }
def NetRunsUptoSaid : Prop := netRunsUptoRow.holds Try.pinned (OpenSpec.upto netRunsSpec)

/-- 'padlocklaw26.NetRoom', WHERE WHAT IT READS IS OF BULK AT MOST 1048576: true; the input reads as it did. -/
def netRoomUptoRow : OpenClaim := { program := "ytcmnhneigojpoaa", sum := "ba6c450f39438e1bfcea57085f711dc7fcc8a2cc22b509f2673265e499c5ebdb", func := "padlock/padlocklaw26.NetRoom", spec := "netRoom", apart := false, narrowed := true }
def NetRoomUptoSaid : Prop := netRoomUptoRow.holds Try.pinned (OpenSpec.upto netRoomSpec)

/-- 'padlocklaw6.SessionDue', WHERE WHAT IT READS IS OF BULK AT MOST 1048576: true; the input reads as it did. -/
def sessionDueUptoRow : OpenClaim := { program := "ytcmnhneigojpoaa", sum := "ba6c450f39438e1bfcea57085f711dc7fcc8a2cc22b509f2673265e499c5ebdb", func := "padlock/padlocklaw6.SessionDue", spec := "sessionDue", inPlace := ["slices.overlaps[padlock/api.Session]"], unfollowed := true, recurses := true, apart := false, narrowed := true }
def SessionDueUptoSaid : Prop := sessionDueUptoRow.holds Try.pinned (OpenSpec.upto sessionDueSpec)

/-- 'padlocklaw6.SessionRefuses', WHERE WHAT IT READS IS OF BULK AT MOST 1048576: true; the input reads as it did. -/
def sessionRefusesUptoRow : OpenClaim := { program := "ytcmnhneigojpoaa", sum := "ba6c450f39438e1bfcea57085f711dc7fcc8a2cc22b509f2673265e499c5ebdb", func := "padlock/padlocklaw6.SessionRefuses", spec := "sessionRefuses", inPlace := ["slices.overlaps[padlock/api.Session]"], unfollowed := true, recurses := true, apart := false, narrowed := true }
def SessionRefusesUptoSaid : Prop := sessionRefusesUptoRow.holds Try.pinned (OpenSpec.upto sessionRefusesSpec)

/-- 'padlocklaw6.SessionRights', WHERE WHAT IT READS IS OF BULK AT MOST 1048576: true; the input reads as it did. -/
def sessionRightsUptoRow : OpenClaim := { program := "ytcmnhneigojpoaa", sum := "ba6c450f39438e1bfcea57085f711dc7fcc8a2cc22b509f2673265e499c5ebdb", func := "padlock/padlocklaw6.SessionRights", spec := "sessionRights", inPlace := ["slices.overlaps[padlock/api.Session]"], unfollowed := true, recurses := true, apart := false, narrowed := true }
def SessionRightsUptoSaid : Prop := sessionRightsUptoRow.holds Try.pinned (OpenSpec.upto sessionRightsSpec)

/-- 'padlocklaw6.SessionRuns', WHERE WHAT IT READS IS OF BULK AT MOST 1048576: true; the input reads as it did. -/
def sessionRunsUptoRow : OpenClaim := { program := "ytcmnhneigojpoaa", sum := "ba6c450f39438e1bfcea57085f711dc7fcc8a2cc22b509f2673265e499c5ebdb", func := "padlock/padlocklaw6.SessionRuns", spec := "sessionRuns", inPlace := ["slices.overlaps[padlock/api.Session]"], unfollowed := true, recurses := true, apart := false, narrowed := true }
def SessionRunsUptoSaid : Prop := sessionRunsUptoRow.holds Try.pinned (OpenSpec.upto sessionRunsSpec)

/-- 'padlocklaw6.SessionBack', WHERE WHAT IT READS IS OF BULK AT MOST 1048576: true; the input reads as it did. -/
def sessionBackUptoRow : OpenClaim := { program := "ytcmnhneigojpoaa", sum := "ba6c450f39438e1bfcea57085f711dc7fcc8a2cc22b509f2673265e499c5ebdb", func := "padlock/padlocklaw6.SessionBack", spec := "sessionBack", inPlace := ["slices.overlaps[padlock/api.Session]"], unfollowed := true, recurses := true, apart := false, narrowed := true }
def SessionBackUptoSaid : Prop := sessionBackUptoRow.holds Try.pinned (OpenSpec.upto sessionBackSpec)

end Rows
end Go.Proofs.Ytcmnhneigojpoaa
