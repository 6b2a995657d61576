/-
  No cell of these rows narrows 'for every input' (looked for: loops, veiled, ifaces, maps, wideKeys, modest, calm, conditions, laid).
  DERIVED. THE GIVEN ROWS OF THIS SEAT. 11 by the template 'for every input the law returns true; each argument reads behind the call as it read before'; 0 by the template 'total and deterministic' (their statements: YtaggdlbjgjagbaaTotals.lean).
  GIVEN WITH THE SEED: the statements are not yours to turn. If you find one false, say at which input.
  Laid BY PROGRAM, IN A SANDBOX (cutbox-rows.mjs): the forced cells as the released guide's own fill.sh prints them over the translation 74ebaf976974c00e… (all of the seat's roots in one cut). By AI agents, Wed Nov 11 2026. No macro, syntax, notation, axiom, sorry.
-/
import Derived.Test.YtaggdlbjgjagbaaChecked
import GoSem.Claim
import GoSem.ClaimJoined
import GoSem.ClaimMapViews
import Derived.JoinedTies
import Derived.KernelRfl
namespace Go.Proofs.Ytaggdlbjgjagbaa
/- THE CELL 'sum', in the pinned program and in every row, IS THE sha256 OF THE DUMP (.gsa) THAT YtaggdlbjgjagbaaProg.lean LOADS. Nothing in Lean hashes anything: it is a label: what it is worth is what the hold of that sum in a sandbox is worth. -/
noncomputable def Try.pinned : Pinned := { name := "ytaggdlbjgjagbaa", sum := "74ebaf976974c00e8502678051d72708d291e72c720b54f5e6908846c716e54e", checked := Try.checked }
namespace Rows
def none {H : Type} : Left H := { results := [], args := [] }

/-- 'padlocklaw7.LineRights': WHATEVER THE INPUT: true; the input reads as it did. -/
def lineRightsSpec : ChangeSpec := { name := "lineRights", fn := fun _ => fun
  | [d] => { results := [.lit (.bool true)], args := [d] }
  | _ => none }
def lineRightsRow : OpenClaim := { program := "ytaggdlbjgjagbaa", sum := "74ebaf976974c00e8502678051d72708d291e72c720b54f5e6908846c716e54e", func := "padlock/padlocklaw7.LineRights", spec := "lineRights", unfollowed := true, recurses := true, apart := false }
def LineRightsSaid : Prop := lineRightsRow.holds Try.pinned (OpenSpec.ofChange lineRightsSpec)

/-- ITS FALSE NEIGHBOUR: 'it returns false'. Refute it at one input. -/
def lineRightsWrong : ChangeSpec := { name := "lineRights", fn := fun _ => fun
  | [d] => { results := [.lit (.bool false)], args := [d] }
  | _ => none }
def LineRightsWrongFalsely : Prop := lineRightsRow.holds Try.pinned (OpenSpec.ofChange lineRightsWrong)

/-- 'padlocklaw7.LineFull': WHATEVER THE INPUT: true; the input reads as it did. -/
def lineFullSpec : ChangeSpec := { name := "lineFull", fn := fun _ => fun
  | [d1, d2] => { results := [.lit (.bool true)], args := [d1, d2] }
  | _ => none }
def lineFullRow : OpenClaim := { program := "ytaggdlbjgjagbaa", sum := "74ebaf976974c00e8502678051d72708d291e72c720b54f5e6908846c716e54e", func := "padlock/padlocklaw7.LineFull", spec := "lineFull", unfollowed := true, recurses := true, apart := false }
def LineFullSaid : Prop := lineFullRow.holds Try.pinned (OpenSpec.ofChange lineFullSpec)

/-- ITS FALSE NEIGHBOUR: 'it returns false'. Refute it at one input. -/
def lineFullWrong : ChangeSpec := { name := "lineFull", fn := fun _ => fun
  | [d1, d2] => { results := [.lit (.bool false)], args := [d1, d2] }
  | _ => none }
def LineFullWrongFalsely : Prop := lineFullRow.holds Try.pinned (OpenSpec.ofChange lineFullWrong)

/-- 'padlocklaw7.LineFair': WHATEVER THE INPUT: true; the input reads as it did. -/
def lineFairSpec : ChangeSpec := { name := "lineFair", fn := fun _ => fun
  | [d1, d2] => { results := [.lit (.bool true)], args := [d1, d2] }
  | _ => none }
def lineFairRow : OpenClaim := { program := "ytaggdlbjgjagbaa", sum := "74ebaf976974c00e8502678051d72708d291e72c720b54f5e6908846c716e54e", func := "padlock/padlocklaw7.LineFair", spec := "lineFair", unfollowed := true, recurses := true, apart := false }
def LineFairSaid : Prop := lineFairRow.holds Try.pinned (OpenSpec.ofChange lineFairSpec)

/-- ITS FALSE NEIGHBOUR: 'it returns false'. Refute it at one input. -/
def lineFairWrong : ChangeSpec := { name := "lineFair", fn := fun _ => fun
  | [d1, d2] => { results := [.lit (.bool false)], args := [d1, d2] }
  | _ => none }
def LineFairWrongFalsely : Prop := lineFairRow.holds Try.pinned (OpenSpec.ofChange lineFairWrong)

/-- 'padlocklaw7.LineLeaves': WHATEVER THE INPUT: true; the input reads as it did. -/
def lineLeavesSpec : ChangeSpec := { name := "lineLeaves", fn := fun _ => fun
  | [d1, d2, d3] => { results := [.lit (.bool true)], args := [d1, d2, d3] }
  | _ => none }
def lineLeavesRow : OpenClaim := { program := "ytaggdlbjgjagbaa", sum := "74ebaf976974c00e8502678051d72708d291e72c720b54f5e6908846c716e54e", func := "padlock/padlocklaw7.LineLeaves", spec := "lineLeaves", unfollowed := true, recurses := true, apart := false }
def LineLeavesSaid : Prop := lineLeavesRow.holds Try.pinned (OpenSpec.ofChange lineLeavesSpec)

/-- ITS FALSE NEIGHBOUR: 'it returns false'. Refute it at one input. -/
def lineLeavesWrong : ChangeSpec := { name := "lineLeaves", fn := fun _ => fun
  | [d1, d2, d3] => { results := [.lit (.bool false)], args := [d1, d2, d3] }
  | _ => none }
def LineLeavesWrongFalsely : Prop := lineLeavesRow.holds Try.pinned (OpenSpec.ofChange lineLeavesWrong)

/-- 'padlocklaw7.LineRuns': WHATEVER THE INPUT: true; the input reads as it did. -/
def lineRunsSpec : ChangeSpec := { name := "lineRuns", fn := fun _ => fun
  | [d1, d2] => { results := [.lit (.bool true)], args := [d1, d2] }
  | _ => none }
def lineRunsRow : OpenClaim := { program := "ytaggdlbjgjagbaa", sum := "74ebaf976974c00e8502678051d72708d291e72c720b54f5e6908846c716e54e", func := "padlock/padlocklaw7.LineRuns", spec := "lineRuns", unfollowed := true, recurses := true, apart := false }
def LineRunsSaid : Prop := lineRunsRow.holds Try.pinned (OpenSpec.ofChange lineRunsSpec)

/-- ITS FALSE NEIGHBOUR: 'it returns false'. Refute it at one input. -/
def lineRunsWrong : ChangeSpec := { name := "lineRuns", fn := fun _ => fun
  | [d1, d2] => { results := [.lit (.bool false)], args := [d1, d2] }
  | _ => none }
def LineRunsWrongFalsely : Prop := lineRunsRow.holds Try.pinned (OpenSpec.ofChange lineRunsWrong)

/-- 'padlocklaw8.LockFair': WHATEVER THE INPUT: true; the input reads as it did. -/
def lockFairSpec : ChangeSpec := { name := "lockFair", fn := fun _ => fun
  | [d1, d2, d3] => { results := [.lit (.bool true)], args := [d1, d2, d3] }
  | _ => none }
def lockFairRow : OpenClaim := { program := "ytaggdlbjgjagbaa", sum := "74ebaf976974c00e8502678051d72708d291e72c720b54f5e6908846c716e54e", func := "padlock/padlocklaw8.LockFair", spec := "lockFair", inPlace := ["internal/bytealg.abigen_runtime_cmpstring", "slices.overlaps[padlock/api.Lock]"], unfollowed := true, recurses := true, apart := false }
def LockFairSaid : Prop := lockFairRow.holds Try.pinned (OpenSpec.ofChange lockFairSpec)

/-- ITS FALSE NEIGHBOUR: 'it returns false'. Refute it at one input. -/
def lockFairWrong : ChangeSpec := { name := "lockFair", fn := fun _ => fun
  | [d1, d2, d3] => { results := [.lit (.bool false)], args := [d1, d2, d3] }
  | _ => none }
def LockFairWrongFalsely : Prop := lockFairRow.holds Try.pinned (OpenSpec.ofChange lockFairWrong)

/-- 'padlocklaw8.LockOwn': WHATEVER THE INPUT: true; the input reads as it did. -/
def lockOwnSpec : ChangeSpec := { name := "lockOwn", fn := fun _ => fun
  | [d1, d2, d3] => { results := [.lit (.bool true)], args := [d1, d2, d3] }
  | _ => none }
def lockOwnRow : OpenClaim := { program := "ytaggdlbjgjagbaa", sum := "74ebaf976974c00e8502678051d72708d291e72c720b54f5e6908846c716e54e", func := "padlock/padlocklaw8.LockOwn", spec := "lockOwn", inPlace := ["internal/bytealg.abigen_runtime_cmpstring", "slices.overlaps[padlock/api.Lock]"], unfollowed := true, recurses := true, apart := false }
def LockOwnSaid : Prop := lockOwnRow.holds Try.pinned (OpenSpec.ofChange lockOwnSpec)

/-- ITS FALSE NEIGHBOUR: 'it returns false'. Refute it at one input. -/
def lockOwnWrong : ChangeSpec := { name := "lockOwn", fn := fun _ => fun
  | [d1, d2, d3] => { results := [.lit (.bool false)], args := [d1, d2, d3] }
  | _ => none }
def LockOwnWrongFalsely : Prop := lockOwnRow.holds Try.pinned (OpenSpec.ofChange lockOwnWrong)

/-- 'padlocklaw8.LockRights': WHATEVER THE INPUT: true; the input reads as it did. -/
def lockRightsSpec : ChangeSpec := { name := "lockRights", fn := fun _ => fun
  | [d] => { results := [.lit (.bool true)], args := [d] }
  | _ => none }
def lockRightsRow : OpenClaim := { program := "ytaggdlbjgjagbaa", sum := "74ebaf976974c00e8502678051d72708d291e72c720b54f5e6908846c716e54e", func := "padlock/padlocklaw8.LockRights", spec := "lockRights", inPlace := ["internal/bytealg.abigen_runtime_cmpstring", "slices.overlaps[padlock/api.Lock]"], unfollowed := true, recurses := true, apart := false }
def LockRightsSaid : Prop := lockRightsRow.holds Try.pinned (OpenSpec.ofChange lockRightsSpec)

/-- ITS FALSE NEIGHBOUR: 'it returns false'. Refute it at one input. -/
def lockRightsWrong : ChangeSpec := { name := "lockRights", fn := fun _ => fun
  | [d] => { results := [.lit (.bool false)], args := [d] }
  | _ => none }
def LockRightsWrongFalsely : Prop := lockRightsRow.holds Try.pinned (OpenSpec.ofChange lockRightsWrong)

/-- 'padlocklaw8.LockTokens': WHATEVER THE INPUT: true; the input reads as it did. -/
def lockTokensSpec : ChangeSpec := { name := "lockTokens", fn := fun _ => fun
  | [d] => { results := [.lit (.bool true)], args := [d] }
  | _ => none }
def lockTokensRow : OpenClaim := { program := "ytaggdlbjgjagbaa", sum := "74ebaf976974c00e8502678051d72708d291e72c720b54f5e6908846c716e54e", func := "padlock/padlocklaw8.LockTokens", spec := "lockTokens", inPlace := ["internal/bytealg.abigen_runtime_cmpstring", "slices.overlaps[padlock/api.Lock]"], unfollowed := true, recurses := true, apart := false }
def LockTokensSaid : Prop := lockTokensRow.holds Try.pinned (OpenSpec.ofChange lockTokensSpec)

/-- ITS FALSE NEIGHBOUR: 'it returns false'. Refute it at one input. -/
def lockTokensWrong : ChangeSpec := { name := "lockTokens", fn := fun _ => fun
  | [d] => { results := [.lit (.bool false)], args := [d] }
  | _ => none }
def LockTokensWrongFalsely : Prop := lockTokensRow.holds Try.pinned (OpenSpec.ofChange lockTokensWrong)

/-- 'padlocklaw8.LockRuns': WHATEVER THE INPUT: true; the input reads as it did. -/
def lockRunsSpec : ChangeSpec := { name := "lockRuns", fn := fun _ => fun
  | [d] => { results := [.lit (.bool true)], args := [d] }
  | _ => none }
def lockRunsRow : OpenClaim := { program := "ytaggdlbjgjagbaa", sum := "74ebaf976974c00e8502678051d72708d291e72c720b54f5e6908846c716e54e", func := "padlock/padlocklaw8.LockRuns", spec := "lockRuns", inPlace := ["internal/bytealg.abigen_runtime_cmpstring", "slices.overlaps[padlock/api.Lock]"], unfollowed := true, recurses := true, apart := false }
def LockRunsSaid : Prop := lockRunsRow.holds Try.pinned (OpenSpec.ofChange lockRunsSpec)

/-- ITS FALSE NEIGHBOUR: 'it returns false'. Refute it at one input. -/
def lockRunsWrong : ChangeSpec := { name := "lockRuns", fn := fun _ => fun
  | [d] => { results := [.lit (.bool false)], args := [d] }
  | _ => none }
def LockRunsWrongFalsely : Prop := lockRunsRow.holds Try.pinned (OpenSpec.ofChange lockRunsWrong)

/-- 'padlocklaw8.LockDrops': WHATEVER THE INPUT: true; the input reads as it did. -/
def lockDropsSpec : ChangeSpec := { name := "lockDrops", fn := fun _ => fun
  | [d1, d2] => { results := [.lit (.bool true)], args := [d1, d2] }
  | _ => none }
def lockDropsRow : OpenClaim := { program := "ytaggdlbjgjagbaa", sum := "74ebaf976974c00e8502678051d72708d291e72c720b54f5e6908846c716e54e", func := "padlock/padlocklaw8.LockDrops", spec := "lockDrops", inPlace := ["internal/bytealg.abigen_runtime_cmpstring", "slices.overlaps[padlock/api.Lock]"], unfollowed := true, recurses := true, apart := false }
def LockDropsSaid : Prop := lockDropsRow.holds Try.pinned (OpenSpec.ofChange lockDropsSpec)

/-- ITS FALSE NEIGHBOUR: 'it returns false'. Refute it at one input. -/
def lockDropsWrong : ChangeSpec := { name := "lockDrops", fn := fun _ => fun
  | [d1, d2] => { results := [.lit (.bool false)], args := [d1, d2] }
  | _ => none }
def LockDropsWrongFalsely : Prop := lockDropsRow.holds Try.pinned (OpenSpec.ofChange lockDropsWrong)

/- THE SECOND FORM. 'bulk': how many values and letters a reading holds, each counted each time it is reached (what is shared counts as often as it is met; a slice's spare places count too). A statement '..UptoSaid' is the law's where the arguments, and the package variables that the reading takes, are together of bulk at most 1048576: NARROWER than '..Said'. Prove '..Said' where nothing that the law and all that it calls make is longer than what came in: it says more and counts as full. Else prove '..UptoSaid'. A law counts once. -/
mutual
def uptoBulk {H : Type} : DataW H → Nat
  | .lit (.string bytes) => bytes.length + 1
  | .lit _ => 1
  | .nil => 1
  | .ptr d => uptoBulk d + 1
  | .slice elems spare => uptoBulkAll elems + uptoBulkAll spare + 1
  | .agg parts => uptoBulkAll parts + 1
  | .iface _ d => uptoBulk d + 1
  | .map entries => uptoBulkEntries entries + 1
  | .held _ => 1
def uptoBulkAll {H : Type} : List (DataW H) → Nat
  | [] => 0
  | d :: r => uptoBulk d + uptoBulkAll r
def uptoBulkEntries {H : Type} : List (Lit × DataW H) → Nat
  | [] => 0
  | x :: r => uptoBulkEntry x + uptoBulkEntries r
def uptoBulkEntry {H : Type} : Lit × DataW H → Nat
  | (.string bytes, d) => bytes.length + uptoBulk d + 1
  | (_, d) => uptoBulk d + 1
 end
def uptoSmall : (H : Type) → List (DataW H) → Bool := fun _ ds => decide (uptoBulkAll ds ≤ 1048576)
def OpenSpec.upto (s : _root_.Go.ChangeSpec) : _root_.Go.OpenSpec := { _root_.Go.OpenSpec.ofChange s with cond := some uptoSmall }

/-- 'padlocklaw7.LineRights', WHERE WHAT IT READS IS OF BULK AT MOST 1048576: true; the input reads as it did. -/
def lineRightsUptoRow : OpenClaim := { program := "ytaggdlbjgjagbaa", sum := "74ebaf976974c00e8502678051d72708d291e72c720b54f5e6908846c716e54e", func := "padlock/padlocklaw7.LineRights", spec := "lineRights", unfollowed := true, recurses := true, apart := false, narrowed := true }
def LineRightsUptoSaid : Prop := lineRightsUptoRow.holds Try.pinned (OpenSpec.upto lineRightsSpec)

/-- 'padlocklaw7.LineFull', WHERE WHAT IT READS IS OF BULK AT MOST 1048576: true; the input reads as it did. -/
def lineFullUptoRow : OpenClaim := { program := "ytaggdlbjgjagbaa", sum := "74ebaf976974c00e8502678051d72708d291e72c720b54f5e6908846c716e54e", func := "padlock/padlocklaw7.LineFull", spec := "lineFull", unfollowed := true, recurses := true, apart := false, narrowed := true }
def LineFullUptoSaid : Prop := lineFullUptoRow.holds Try.pinned (OpenSpec.upto lineFullSpec)

/-- 'padlocklaw7.LineFair', WHERE WHAT IT READS IS OF BULK AT MOST 1048576: true; the input reads as it did. -/
def lineFairUptoRow : OpenClaim := { program := "ytaggdlbjgjagbaa", sum := "74ebaf976974c00e8502678051d72708d291e72c720b54f5e6908846c716e54e", func := "padlock/padlocklaw7.LineFair", spec := "lineFair", unfollowed := true, recurses := true, apart := false, narrowed := true }
def LineFairUptoSaid : Prop := lineFairUptoRow.holds Try.pinned (OpenSpec.upto lineFairSpec)

/-- 'padlocklaw7.LineLeaves', WHERE WHAT IT READS IS OF BULK AT MOST 1048576: true; the input reads as it did. -/
def lineLeavesUptoRow : OpenClaim := { program := "ytaggdlbjgjagbaa", sum := "74ebaf976974c00e8502678051d72708d291e72c720b54f5e6908846c716e54e", func := "padlock/padlocklaw7.LineLeaves", spec := "lineLeaves", unfollowed := true, recurses := true, apart := false, narrowed := true }
def LineLeavesUptoSaid : Prop := lineLeavesUptoRow.holds Try.pinned (OpenSpec.upto lineLeavesSpec)

/-- 'padlocklaw7.LineRuns', WHERE WHAT IT READS IS OF BULK AT MOST 1048576: true; the input reads as it did. -/
def lineRunsUptoRow : OpenClaim := { program := "ytaggdlbjgjagbaa", sum := "74ebaf976974c00e8502678051d72708d291e72c720b54f5e6908846c716e54e", func := "padlock/padlocklaw7.LineRuns", spec := "lineRuns", unfollowed := true, recurses := true, apart := false, narrowed := true }
def LineRunsUptoSaid : Prop := lineRunsUptoRow.holds Try.pinned (OpenSpec.upto lineRunsSpec)

/-- 'padlocklaw8.LockFair', WHERE WHAT IT READS IS OF BULK AT MOST 1048576: true; the input reads as it did. -/
def lockFairUptoRow : OpenClaim := { program := "ytaggdlbjgjagbaa", sum := "74ebaf976974c00e8502678051d72708d291e72c720b54f5e6908846c716e54e", func := "padlock/padlocklaw8.LockFair", spec := "lockFair", inPlace := ["internal/bytealg.abigen_runtime_cmpstring", "slices.overlaps[padlock/api.Lock]"], unfollowed := true, recurses := true, apart := false, narrowed := true }
def LockFairUptoSaid : Prop := lockFairUptoRow.holds Try.pinned (OpenSpec.upto lockFairSpec)

/-- 'padlocklaw8.LockOwn', WHERE WHAT IT READS IS OF BULK AT MOST 1048576: true; the input reads as it did. -/
def lockOwnUptoRow : OpenClaim := { program := "ytaggdlbjgjagbaa", sum := "74ebaf976974c00e8502678051d72708d291e72c720b54f5e6908846c716e54e", func := "padlock/padlocklaw8.LockOwn", spec := "lockOwn", inPlace := ["internal/bytealg.abigen_runtime_cmpstring", "slices.overlaps[padlock/api.Lock]"], unfollowed := true, recurses := true, apart := false, narrowed := true }
def LockOwnUptoSaid : Prop := lockOwnUptoRow.holds Try.pinned (OpenSpec.upto lockOwnSpec)

/-- 'padlocklaw8.LockRights', WHERE WHAT IT READS IS OF BULK AT MOST 1048576: true; the input reads as it did. -/
def lockRightsUptoRow : OpenClaim := { program := "ytaggdlbjgjagbaa", sum := "74ebaf976974c00e8502678051d72708d291e72c720b54f5e6908846c716e54e", func := "padlock/padlocklaw8.LockRights", spec := "lockRights", inPlace := ["internal/bytealg.abigen_runtime_cmpstring", "slices.overlaps[padlock/api.Lock]"], unfollowed := true, recurses := true, apart := false, narrowed := true }
def LockRightsUptoSaid : Prop := lockRightsUptoRow.holds Try.pinned (OpenSpec.upto lockRightsSpec)

/-- 'padlocklaw8.LockTokens', WHERE WHAT IT READS IS OF BULK AT MOST 1048576: true; the input reads as it did. -/
def lockTokensUptoRow : OpenClaim := { program := "ytaggdlbjgjagbaa", sum := "74ebaf976974c00e8502678051d72708d291e72c720b54f5e6908846c716e54e", func := "padlock/padlocklaw8.LockTokens", spec := "lockTokens", inPlace := ["internal/bytealg.abigen_runtime_cmpstring", "slices.overlaps[padlock/api.Lock]"], unfollowed := true, recurses := true, apart := false, narrowed := true }
def LockTokensUptoSaid : Prop := lockTokensUptoRow.holds Try.pinned (OpenSpec.upto lockTokensSpec)

/-- 'padlocklaw8.LockRuns', WHERE WHAT IT READS IS OF BULK AT MOST 1048576: true; the input reads as it did. -/
def lockRunsUptoRow : OpenClaim := { program := "ytaggdlbjgjagbaa", sum := "74ebaf976974c00e8502678051d72708d291e72c720b54f5e6908846c716e54e", func := "padlock/padlocklaw8.LockRuns", spec := "lockRuns", inPlace := ["internal/bytealg.abigen_runtime_cmpstring", "slices.overlaps[padlock/api.Lock]"], unfollowed := true, recurses := true, apart := false, narrowed := true }
def LockRunsUptoSaid : Prop := lockRunsUptoRow.holds Try.pinned (OpenSpec.upto lockRunsSpec)

/-- 'padlocklaw8.LockDrops', WHERE WHAT IT READS IS OF BULK AT MOST 1048576: true; the input reads as it did. -/
def lockDropsUptoRow : OpenClaim := { program := "ytaggdlbjgjagbaa", sum := "74ebaf976974c00e8502678051d72708d291e72c720b54f5e6908846c716e54e", func := "padlock/padlocklaw8.LockDrops", spec := "lockDrops", inPlace := ["internal/bytealg.abigen_runtime_cmpstring", "slices.overlaps[padlock/api.Lock]"], unfollowed := true, recurses := true, apart := false, narrowed := true }
def LockDropsUptoSaid : Prop := lockDropsUptoRow.holds Try.pinned (OpenSpec.upto lockDropsSpec)

end Rows
end Go.Proofs.Ytaggdlbjgjagbaa
