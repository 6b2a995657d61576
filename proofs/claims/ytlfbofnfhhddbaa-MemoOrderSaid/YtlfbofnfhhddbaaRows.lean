/-
  No cell of these rows narrows 'for every input' (looked for: loops, veiled, ifaces, maps, wideKeys, modest, calm, conditions, laid).
  DERIVED. THE GIVEN ROWS OF THIS SEAT. 15 by the template 'for every input the law returns true; each argument reads behind the call as it read before'; 0 by the template 'total and deterministic' (their statements: YtlfbofnfhhddbaaTotals.lean).
  GIVEN WITH THE SEED: the statements are not yours to turn. If you find one false, say at which input.
  Laid BY PROGRAM, IN A SANDBOX (cutbox-rows.mjs): the forced cells as the released guide's own fill.sh prints them over the translation baac4728e40c8fe9… (all of the seat's roots in one cut). By AI agents, Wed Nov 11 2026. No macro, syntax, notation, axiom, sorry.
-/
import Derived.Test.YtlfbofnfhhddbaaChecked
import GoSem.Claim
import GoSem.ClaimJoined
import GoSem.ClaimMapViews
import Derived.JoinedTies
import Derived.KernelRfl
namespace Go.Proofs.Ytlfbofnfhhddbaa
/- THE CELL 'sum', in the pinned program and in every row, IS THE sha256 OF THE DUMP (.gsa) THAT YtlfbofnfhhddbaaProg.lean LOADS. Nothing in Lean hashes anything: it is a label: what it is worth is what the hold of that sum in a sandbox is worth. -/
noncomputable def Try.pinned : Pinned := { name := "ytlfbofnfhhddbaa", sum := "baac4728e40c8fe963f15e59a74475d9a8ae7c6829696908057f552a83512f49", checked := Try.checked }
namespace Rows
def none {H : Type} : Left H := { results := [], args := [] }

/-- 'padlocklaw19.PoolWaits': WHATEVER THE INPUT: true; the input reads as it did. -/
def poolWaitsSpec : ChangeSpec := { name := "poolWaits", fn := fun _ => fun
  | [d1, d2, d3, d4, d5] => { results := [.lit (.bool true)], args := [d1, d2, d3, d4, d5] }
  | _ => none }
def poolWaitsRow : OpenClaim := { program := "ytlfbofnfhhddbaa", sum := "baac4728e40c8fe963f15e59a74475d9a8ae7c6829696908057f552a83512f49", func := "padlock/padlocklaw19.PoolWaits", spec := "poolWaits", unfollowed := true, recurses := true, apart := false }
def PoolWaitsSaid : Prop := poolWaitsRow.holds Try.pinned (OpenSpec.ofChange poolWaitsSpec)

/-- ITS FALSE NEIGHBOUR: 'it returns false'. Refute it at one input. -/
def poolWaitsWrong : ChangeSpec := { name := "poolWaits", fn := fun _ => fun
  | [d1, d2, d3, d4, d5] => { results := [.lit (.bool false)], args := [d1, d2, d3, d4, d5] }
  | _ => none }
def PoolWaitsWrongFalsely : Prop := poolWaitsRow.holds Try.pinned (OpenSpec.ofChange poolWaitsWrong)

/-- 'padlocklaw19.PoolRoom': WHATEVER THE INPUT: true; the input reads as it did. -/
def poolRoomSpec : ChangeSpec := { name := "poolRoom", fn := fun _ => fun
  | [d] => { results := [.lit (.bool true)], args := [d] }
  | _ => none }
def poolRoomRow : OpenClaim := { program := "ytlfbofnfhhddbaa", sum := "baac4728e40c8fe963f15e59a74475d9a8ae7c6829696908057f552a83512f49", func := "padlock/padlocklaw19.PoolRoom", spec := "poolRoom", unfollowed := true, recurses := true, apart := false }
def PoolRoomSaid : Prop := poolRoomRow.holds Try.pinned (OpenSpec.ofChange poolRoomSpec)

/-- ITS FALSE NEIGHBOUR: 'it returns false'. Refute it at one input. -/
def poolRoomWrong : ChangeSpec := { name := "poolRoom", fn := fun _ => fun
  | [d] => { results := [.lit (.bool false)], args := [d] }
  | _ => none }
def PoolRoomWrongFalsely : Prop := poolRoomRow.holds Try.pinned (OpenSpec.ofChange poolRoomWrong)

/-- 'padlocklaw19.PoolFair': WHATEVER THE INPUT: true; the input reads as it did. -/
def poolFairSpec : ChangeSpec := { name := "poolFair", fn := fun _ => fun
  | [d1, d2] => { results := [.lit (.bool true)], args := [d1, d2] }
  | _ => none }
def poolFairRow : OpenClaim := { program := "ytlfbofnfhhddbaa", sum := "baac4728e40c8fe963f15e59a74475d9a8ae7c6829696908057f552a83512f49", func := "padlock/padlocklaw19.PoolFair", spec := "poolFair", unfollowed := true, recurses := true, apart := false }
def PoolFairSaid : Prop := poolFairRow.holds Try.pinned (OpenSpec.ofChange poolFairSpec)

/-- ITS FALSE NEIGHBOUR: 'it returns false'. Refute it at one input. -/
def poolFairWrong : ChangeSpec := { name := "poolFair", fn := fun _ => fun
  | [d1, d2] => { results := [.lit (.bool false)], args := [d1, d2] }
  | _ => none }
def PoolFairWrongFalsely : Prop := poolFairRow.holds Try.pinned (OpenSpec.ofChange poolFairWrong)

/-- 'padlocklaw5.ReplyAll': WHATEVER THE INPUT: true; the input reads as it did. -/
def replyAllSpec : ChangeSpec := { name := "replyAll", fn := fun _ => fun
  | [d1, d2, d3, d4] => { results := [.lit (.bool true)], args := [d1, d2, d3, d4] }
  | _ => none }
def replyAllRow : OpenClaim := { program := "ytlfbofnfhhddbaa", sum := "baac4728e40c8fe963f15e59a74475d9a8ae7c6829696908057f552a83512f49", func := "padlock/padlocklaw5.ReplyAll", spec := "replyAll", unfollowed := true, recurses := true, apart := false }
def ReplyAllSaid : Prop := replyAllRow.holds Try.pinned (OpenSpec.ofChange replyAllSpec)

/-- ITS FALSE NEIGHBOUR: 'it returns false'. Refute it at one input. -/
def replyAllWrong : ChangeSpec := { name := "replyAll", fn := fun _ => fun
  | [d1, d2, d3, d4] => { results := [.lit (.bool false)], args := [d1, d2, d3, d4] }
  | _ => none }
def ReplyAllWrongFalsely : Prop := replyAllRow.holds Try.pinned (OpenSpec.ofChange replyAllWrong)

/-- 'padlocklaw5.ReplyTokens': WHATEVER THE INPUT: true; the input reads as it did. -/
def replyTokensSpec : ChangeSpec := { name := "replyTokens", fn := fun _ => fun
  | [d1, d2] => { results := [.lit (.bool true)], args := [d1, d2] }
  | _ => none }
def replyTokensRow : OpenClaim := { program := "ytlfbofnfhhddbaa", sum := "baac4728e40c8fe963f15e59a74475d9a8ae7c6829696908057f552a83512f49", func := "padlock/padlocklaw5.ReplyTokens", spec := "replyTokens", unfollowed := true, recurses := true, apart := false }
def ReplyTokensSaid : Prop := replyTokensRow.holds Try.pinned (OpenSpec.ofChange replyTokensSpec)

/-- ITS FALSE NEIGHBOUR: 'it returns false'. Refute it at one input. -/
def replyTokensWrong : ChangeSpec := { name := "replyTokens", fn := fun _ => fun
  | [d1, d2] => { results := [.lit (.bool false)], args := [d1, d2] }
  | _ => none }
def ReplyTokensWrongFalsely : Prop := replyTokensRow.holds Try.pinned (OpenSpec.ofChange replyTokensWrong)

/-- 'padlocklaw5.ReplyRefuses': WHATEVER THE INPUT: true; the input reads as it did. -/
def replyRefusesSpec : ChangeSpec := { name := "replyRefuses", fn := fun _ => fun
  | [d1, d2, d3] => { results := [.lit (.bool true)], args := [d1, d2, d3] }
  | _ => none }
def replyRefusesRow : OpenClaim := { program := "ytlfbofnfhhddbaa", sum := "baac4728e40c8fe963f15e59a74475d9a8ae7c6829696908057f552a83512f49", func := "padlock/padlocklaw5.ReplyRefuses", spec := "replyRefuses", unfollowed := true, recurses := true, apart := false }
def ReplyRefusesSaid : Prop := replyRefusesRow.holds Try.pinned (OpenSpec.ofChange replyRefusesSpec)

/-- ITS FALSE NEIGHBOUR: 'it returns false'. Refute it at one input. -/
def replyRefusesWrong : ChangeSpec := { name := "replyRefuses", fn := fun _ => fun
  | [d1, d2, d3] => { results := [.lit (.bool false)], args := [d1, d2, d3] }
  | _ => none }
def ReplyRefusesWrongFalsely : Prop := replyRefusesRow.holds Try.pinned (OpenSpec.ofChange replyRefusesWrong)

/-- 'padlocklaw5.ReplyAnswers': WHATEVER THE INPUT: true; the input reads as it did. -/
def replyAnswersSpec : ChangeSpec := { name := "replyAnswers", fn := fun _ => fun
  | [d1, d2, d3] => { results := [.lit (.bool true)], args := [d1, d2, d3] }
  | _ => none }
def replyAnswersRow : OpenClaim := { program := "ytlfbofnfhhddbaa", sum := "baac4728e40c8fe963f15e59a74475d9a8ae7c6829696908057f552a83512f49", func := "padlock/padlocklaw5.ReplyAnswers", spec := "replyAnswers", unfollowed := true, recurses := true, apart := false }
def ReplyAnswersSaid : Prop := replyAnswersRow.holds Try.pinned (OpenSpec.ofChange replyAnswersSpec)

/-- ITS FALSE NEIGHBOUR: 'it returns false'. Refute it at one input. -/
def replyAnswersWrong : ChangeSpec := { name := "replyAnswers", fn := fun _ => fun
  | [d1, d2, d3] => { results := [.lit (.bool false)], args := [d1, d2, d3] }
  | _ => none }
def ReplyAnswersWrongFalsely : Prop := replyAnswersRow.holds Try.pinned (OpenSpec.ofChange replyAnswersWrong)

/-- 'padlocklaw5.ReplyBack': WHATEVER THE INPUT: true; the input reads as it did. -/
def replyBackSpec : ChangeSpec := { name := "replyBack", fn := fun _ => fun
  | [d1, d2, d3, d4, d5] => { results := [.lit (.bool true)], args := [d1, d2, d3, d4, d5] }
  | _ => none }
def replyBackRow : OpenClaim := { program := "ytlfbofnfhhddbaa", sum := "baac4728e40c8fe963f15e59a74475d9a8ae7c6829696908057f552a83512f49", func := "padlock/padlocklaw5.ReplyBack", spec := "replyBack", unfollowed := true, recurses := true, apart := false }
def ReplyBackSaid : Prop := replyBackRow.holds Try.pinned (OpenSpec.ofChange replyBackSpec)

/-- ITS FALSE NEIGHBOUR: 'it returns false'. Refute it at one input. -/
def replyBackWrong : ChangeSpec := { name := "replyBack", fn := fun _ => fun
  | [d1, d2, d3, d4, d5] => { results := [.lit (.bool false)], args := [d1, d2, d3, d4, d5] }
  | _ => none }
def ReplyBackWrongFalsely : Prop := replyBackRow.holds Try.pinned (OpenSpec.ofChange replyBackWrong)

/-- 'padlocklaw19.PoolRuns': WHATEVER THE INPUT: true; the input reads as it did. -/
def poolRunsSpec : ChangeSpec := { name := "poolRuns", fn := fun _ => fun
  | [d1, d2, d3] => { results := [.lit (.bool true)], args := [d1, d2, d3] }
  | _ => none }
def poolRunsRow : OpenClaim := { program := "ytlfbofnfhhddbaa", sum := "baac4728e40c8fe963f15e59a74475d9a8ae7c6829696908057f552a83512f49", func := "padlock/padlocklaw19.PoolRuns", spec := "poolRuns", unfollowed := true, recurses := true, apart := false }
def PoolRunsSaid : Prop := poolRunsRow.holds Try.pinned (OpenSpec.ofChange poolRunsSpec)

/-- ITS FALSE NEIGHBOUR: 'it returns false'. Refute it at one input. -/
def poolRunsWrong : ChangeSpec := { name := "poolRuns", fn := fun _ => fun
  | [d1, d2, d3] => { results := [.lit (.bool false)], args := [d1, d2, d3] }
  | _ => none }
def PoolRunsWrongFalsely : Prop := poolRunsRow.holds Try.pinned (OpenSpec.ofChange poolRunsWrong)

/-- 'padlocklaw19.PoolTrims': WHATEVER THE INPUT: true; the input reads as it did. -/
def poolTrimsSpec : ChangeSpec := { name := "poolTrims", fn := fun _ => fun
  | [d1, d2, d3, d4, d5] => { results := [.lit (.bool true)], args := [d1, d2, d3, d4, d5] }
  | _ => none }
def poolTrimsRow : OpenClaim := { program := "ytlfbofnfhhddbaa", sum := "baac4728e40c8fe963f15e59a74475d9a8ae7c6829696908057f552a83512f49", func := "padlock/padlocklaw19.PoolTrims", spec := "poolTrims", unfollowed := true, recurses := true, apart := false }
def PoolTrimsSaid : Prop := poolTrimsRow.holds Try.pinned (OpenSpec.ofChange poolTrimsSpec)

/-- ITS FALSE NEIGHBOUR: 'it returns false'. Refute it at one input. -/
def poolTrimsWrong : ChangeSpec := { name := "poolTrims", fn := fun _ => fun
  | [d1, d2, d3, d4, d5] => { results := [.lit (.bool false)], args := [d1, d2, d3, d4, d5] }
  | _ => none }
def PoolTrimsWrongFalsely : Prop := poolTrimsRow.holds Try.pinned (OpenSpec.ofChange poolTrimsWrong)

/-- 'padlocklaw9.MemoRights': WHATEVER THE INPUT: true; the input reads as it did. -/
def memoRightsSpec : ChangeSpec := { name := "memoRights", fn := fun _ => fun
  | [d] => { results := [.lit (.bool true)], args := [d] }
  | _ => none }
def memoRightsRow : OpenClaim := { program := "ytlfbofnfhhddbaa", sum := "baac4728e40c8fe963f15e59a74475d9a8ae7c6829696908057f552a83512f49", func := "padlock/padlocklaw9.MemoRights", spec := "memoRights", inPlace := ["slices.overlaps[padlock/api.Memo]"], unfollowed := true, recurses := true, apart := false }
def MemoRightsSaid : Prop := memoRightsRow.holds Try.pinned (OpenSpec.ofChange memoRightsSpec)

/-- ITS FALSE NEIGHBOUR: 'it returns false'. Refute it at one input. -/
def memoRightsWrong : ChangeSpec := { name := "memoRights", fn := fun _ => fun
  | [d] => { results := [.lit (.bool false)], args := [d] }
  | _ => none }
def MemoRightsWrongFalsely : Prop := memoRightsRow.holds Try.pinned (OpenSpec.ofChange memoRightsWrong)

/-- 'padlocklaw9.MemoOrder': WHATEVER THE INPUT: true; the input reads as it did. -/
def memoOrderSpec : ChangeSpec := { name := "memoOrder", fn := fun _ => fun
  | [d1, d2] => { results := [.lit (.bool true)], args := [d1, d2] }
  | _ => none }
def memoOrderRow : OpenClaim := { program := "ytlfbofnfhhddbaa", sum := "baac4728e40c8fe963f15e59a74475d9a8ae7c6829696908057f552a83512f49", func := "padlock/padlocklaw9.MemoOrder", spec := "memoOrder", inPlace := ["slices.overlaps[padlock/api.Memo]"], unfollowed := true, recurses := true, apart := false }
def MemoOrderSaid : Prop := memoOrderRow.holds Try.pinned (OpenSpec.ofChange memoOrderSpec)

/-- ITS FALSE NEIGHBOUR: 'it returns false'. Refute it at one input. -/
def memoOrderWrong : ChangeSpec := { name := "memoOrder", fn := fun _ => fun
  | [d1, d2] => { results := [.lit (.bool false)], args := [d1, d2] }
  | _ => none }
def MemoOrderWrongFalsely : Prop := memoOrderRow.holds Try.pinned (OpenSpec.ofChange memoOrderWrong)

/-- 'padlocklaw9.MemoRuns': WHATEVER THE INPUT: true; the input reads as it did. -/
def memoRunsSpec : ChangeSpec := { name := "memoRuns", fn := fun _ => fun
  | [d1, d2, d3] => { results := [.lit (.bool true)], args := [d1, d2, d3] }
  | _ => none }
def memoRunsRow : OpenClaim := { program := "ytlfbofnfhhddbaa", sum := "baac4728e40c8fe963f15e59a74475d9a8ae7c6829696908057f552a83512f49", func := "padlock/padlocklaw9.MemoRuns", spec := "memoRuns", inPlace := ["slices.overlaps[padlock/api.Memo]"], unfollowed := true, recurses := true, apart := false }
def MemoRunsSaid : Prop := memoRunsRow.holds Try.pinned (OpenSpec.ofChange memoRunsSpec)

/-- ITS FALSE NEIGHBOUR: 'it returns false'. Refute it at one input. -/
def memoRunsWrong : ChangeSpec := { name := "memoRuns", fn := fun _ => fun
  | [d1, d2, d3] => { results := [.lit (.bool false)], args := [d1, d2, d3] }
  | _ => none }
def MemoRunsWrongFalsely : Prop := memoRunsRow.holds Try.pinned (OpenSpec.ofChange memoRunsWrong)

/-- 'padlocklaw9.MemoKeeps': WHATEVER THE INPUT: true; the input reads as it did. -/
def memoKeepsSpec : ChangeSpec := { name := "memoKeeps", fn := fun _ => fun
  | [d] => { results := [.lit (.bool true)], args := [d] }
  | _ => none }
def memoKeepsRow : OpenClaim := { program := "ytlfbofnfhhddbaa", sum := "baac4728e40c8fe963f15e59a74475d9a8ae7c6829696908057f552a83512f49", func := "padlock/padlocklaw9.MemoKeeps", spec := "memoKeeps", inPlace := ["slices.overlaps[padlock/api.Memo]"], unfollowed := true, recurses := true, apart := false }
def MemoKeepsSaid : Prop := memoKeepsRow.holds Try.pinned (OpenSpec.ofChange memoKeepsSpec)

/-- ITS FALSE NEIGHBOUR: 'it returns false'. Refute it at one input. -/
def memoKeepsWrong : ChangeSpec := { name := "memoKeeps", fn := fun _ => fun
  | [d] => { results := [.lit (.bool false)], args := [d] }
  | _ => none }
def MemoKeepsWrongFalsely : Prop := memoKeepsRow.holds Try.pinned (OpenSpec.ofChange memoKeepsWrong)

/-- 'padlocklaw9.MemoSame': WHATEVER THE INPUT: true; the input reads as it did. -/
def memoSameSpec : ChangeSpec := { name := "memoSame", fn := fun _ => fun
  | [d1, d2, d3, d4] => { results := [.lit (.bool true)], args := [d1, d2, d3, d4] }
  | _ => none }
def memoSameRow : OpenClaim := { program := "ytlfbofnfhhddbaa", sum := "baac4728e40c8fe963f15e59a74475d9a8ae7c6829696908057f552a83512f49", func := "padlock/padlocklaw9.MemoSame", spec := "memoSame", inPlace := ["slices.overlaps[padlock/api.Memo]"], unfollowed := true, recurses := true, apart := false }
def MemoSameSaid : Prop := memoSameRow.holds Try.pinned (OpenSpec.ofChange memoSameSpec)

/-- ITS FALSE NEIGHBOUR: 'it returns false'. Refute it at one input. -/
def memoSameWrong : ChangeSpec := { name := "memoSame", fn := fun _ => fun
  | [d1, d2, d3, d4] => { results := [.lit (.bool false)], args := [d1, d2, d3, d4] }
  | _ => none }
def MemoSameWrongFalsely : Prop := memoSameRow.holds Try.pinned (OpenSpec.ofChange memoSameWrong)

/- THE SECOND FORM. 'bulk': how many values and letters a reading holds, each counted each time it is reached (what is shared counts as often as it is met; a slice's spare places count too). A statement '..UptoSaid' is the law's where the arguments, and the package variables that the reading takes, are together of bulk at most 1048576: NARROWER than '..Said'. Prove '..Said' where nothing that the law and all that it calls make is longer than what came in: it says more and counts as full. Else prove '..UptoSaid'. A law counts once. -/
mutual
def uptoBulk {H : Type} : DataW H → Nat
  | .lit (.string bytes) => bytes.length + 1
  | .lit _ => 1
  | .nil => 1
  | .ptr d => uptoBulk d + 1
  | .slice elems spare => uptoBulkAll elems + uptoBulkAll spare + 1
  | .agg parts => uptoBulkAll parts + 1
  | .iface _ d => uptoBulk d + 1
  | .map entries => uptoBulkEntries entries + 1
  | .held _ => 1
def uptoBulkAll {H : Type} : List (DataW H) → Nat
  | [] => 0
  | d :: r => uptoBulk d + uptoBulkAll r
def uptoBulkEntries {H : Type} : List (Lit × DataW H) → Nat
  | [] => 0
  | x :: r => uptoBulkEntry x + uptoBulkEntries r
def uptoBulkEntry {H : Type} : Lit × DataW H → Nat
  | (.string bytes, d) => bytes.length + uptoBulk d + 1
  | (_, d) => uptoBulk d + 1
 end
def uptoSmall : (H : Type) → List (DataW H) → Bool := fun _ ds => decide (uptoBulkAll ds ≤ 1048576)
def OpenSpec.upto (s : _root_.Go.ChangeSpec) : _root_.Go.OpenSpec := { _root_.Go.OpenSpec.ofChange s with cond := some uptoSmall }

/-- 'padlocklaw19.PoolWaits', WHERE WHAT IT READS IS OF BULK AT MOST 1048576: true; the input reads as it did. -/
def poolWaitsUptoRow : OpenClaim := { program := "ytlfbofnfhhddbaa", sum := "baac4728e40c8fe963f15e59a74475d9a8ae7c6829696908057f552a83512f49", func := "padlock/padlocklaw19.PoolWaits", spec := "poolWaits", unfollowed := true, recurses := true, apart := false, narrowed := true }
def PoolWaitsUptoSaid : Prop := poolWaitsUptoRow.holds Try.pinned (OpenSpec.upto poolWaitsSpec)

/-- 'padlocklaw19.PoolRoom', WHERE WHAT IT READS IS OF BULK AT MOST 1048576: true; the input reads as it did. -/
def poolRoomUptoRow : OpenClaim := { program := "ytlfbofnfhhddbaa", sum := "baac4728e40c8fe963f15e59a74475d9a8ae7c6829696908057f552a83512f49", func := "padlock/padlocklaw19.PoolRoom", spec := "poolRoom", unfollowed := true, recurses := true, apart := false, narrowed := true }
def PoolRoomUptoSaid : Prop := poolRoomUptoRow.holds Try.pinned (OpenSpec.upto poolRoomSpec)

/-- 'padlocklaw19.PoolFair', WHERE WHAT IT READS IS OF BULK AT MOST 1048576: true; the input reads as it did. -/
def poolFairUptoRow : OpenClaim := { program := "ytlfbofnfhhddbaa", sum := "baac4728e40c8fe963f15e59a74475d9a8ae7c6829696908057f552a83512f49", func := "padlock/padlocklaw19.PoolFair", spec := "poolFair", unfollowed := true, recurses := true, apart := false, narrowed := true }
def PoolFairUptoSaid : Prop := poolFairUptoRow.holds Try.pinned (OpenSpec.upto poolFairSpec)

/-- 'padlocklaw5.ReplyAll', WHERE WHAT IT READS IS OF BULK AT MOST 1048576: true; the input reads as it did. -/
def replyAllUptoRow : OpenClaim := { program := "ytlfbofnfhhddbaa", sum := "baac4728e40c8fe963f15e59a74475d9a8ae7c6829696908057f552a83512f49", func := "padlock/padlocklaw5.ReplyAll", spec := "replyAll", unfollowed := true, recurses := true, apart := false, narrowed := true }
def ReplyAllUptoSaid : Prop := replyAllUptoRow.holds Try.pinned (OpenSpec.upto replyAllSpec)

/-- 'padlocklaw5.ReplyTokens', WHERE WHAT IT READS IS OF BULK AT MOST 1048576: true; the input reads as it did. -/
def replyTokensUptoRow : OpenClaim := { program := "ytlfbofnfhhddbaa", sum := "baac4728e40c8fe963f15e59a74475d9a8ae7c6829696908057f552a83512f49", func := "padlock/padlocklaw5.ReplyTokens", spec := "replyTokens", unfollowed := true, recurses := true, apart := false, narrowed := true }
def ReplyTokensUptoSaid : Prop := replyTokensUptoRow.holds Try.pinned (OpenSpec.upto replyTokensSpec)

/-- 'padlocklaw5.ReplyRefuses', WHERE WHAT IT READS IS OF BULK AT MOST 1048576: true; the input reads as it did. -/
def replyRefusesUptoRow : OpenClaim := { program := "ytlfbofnfhhddbaa", sum := "baac4728e40c8fe963f15e59a74475d9a8ae7c6829696908057f552a83512f49", func := "padlock/padlocklaw5.ReplyRefuses", spec := "replyRefuses", unfollowed := true, recurses := true, apart := false, narrowed := true }
def ReplyRefusesUptoSaid : Prop := replyRefusesUptoRow.holds Try.pinned (OpenSpec.upto replyRefusesSpec)

/-- 'padlocklaw5.ReplyAnswers', WHERE WHAT IT READS IS OF BULK AT MOST 1048576: true; the input reads as it did. -/
def replyAnswersUptoRow : OpenClaim := { program := "ytlfbofnfhhddbaa", sum := "baac4728e40c8fe963f15e59a74475d9a8ae7c6829696908057f552a83512f49", func := "padlock/padlocklaw5.ReplyAnswers", spec := "replyAnswers", unfollowed := true, recurses := true, apart := false, narrowed := true }
def ReplyAnswersUptoSaid : Prop := replyAnswersUptoRow.holds Try.pinned (OpenSpec.upto replyAnswersSpec)

/-- 'padlocklaw5.ReplyBack', WHERE WHAT IT READS IS OF BULK AT MOST 1048576: true; the input reads as it did. -/
def replyBackUptoRow : OpenClaim := { program := "ytlfbofnfhhddbaa", sum := "baac4728e40c8fe963f15e59a74475d9a8ae7c6829696908057f552a83512f49", func := "padlock/padlocklaw5.ReplyBack", spec := "replyBack", unfollowed := true, recurses := true, apart := false, narrowed := true }
def ReplyBackUptoSaid : Prop := replyBackUptoRow.holds Try.pinned (OpenSpec.upto replyBackSpec)

/-- 'padlocklaw19.PoolRuns', WHERE WHAT IT READS IS OF BULK AT MOST 1048576: true; the input reads as it did. -/
def poolRunsUptoRow : OpenClaim := { program := "ytlfbofnfhhddbaa", sum := "baac4728e40c8fe963f15e59a74475d9a8ae7c6829696908057f552a83512f49", func := "padlock/padlocklaw19.PoolRuns", spec := "poolRuns", unfollowed := true, recurses := true, apart := false, narrowed := true }
def PoolRunsUptoSaid : Prop := poolRunsUptoRow.holds Try.pinned (OpenSpec.upto poolRunsSpec)

/-- 'padlocklaw19.PoolTrims', WHERE WHAT IT READS IS OF BULK AT MOST 1048576: true; the input reads as it did. -/
def poolTrimsUptoRow : OpenClaim := { program := "ytlfbofnfhhddbaa", sum := "baac4728e40c8fe963f15e59a74475d9a8ae7c6829696908057f552a83512f49", func := "padlock/padlocklaw19.PoolTrims", spec := "poolTrims", unfollowed := true, recurses := true, apart := false, narrowed := true }
def PoolTrimsUptoSaid : Prop := poolTrimsUptoRow.holds Try.pinned (OpenSpec.upto poolTrimsSpec)

/-- 'padlocklaw9.MemoRights', WHERE WHAT IT READS IS OF BULK AT MOST 1048576: true; the input reads as it did. -/
def memoRightsUptoRow : OpenClaim := { program := "ytlfbofnfhhddbaa", sum := "baac4728e40c8fe963f15e59a74475d9a8ae7c6829696908057f552a83512f49", func := "padlock/padlocklaw9.MemoRights", spec := "memoRights", inPlace := ["slices.overlaps[padlock/api.Memo]"], unfollowed := true, recurses := true, apart := false, narrowed := true }
def MemoRightsUptoSaid : Prop := memoRightsUptoRow.holds Try.pinned (OpenSpec.upto memoRightsSpec)

/-- 'padlocklaw9.MemoOrder', WHERE WHAT IT READS IS OF BULK AT MOST 1048576: true; the input reads as it did. -/
def memoOrderUptoRow : OpenClaim := { program := "ytlfbofnfhhddbaa", sum := "baac4728e40c8fe963f15e59a74475d9a8ae7c6829696908057f552a83512f49", func := "padlock/padlocklaw9.MemoOrder", spec := "memoOrder", inPlace := ["slices.overlaps[padlock/api.Memo]"], unfollowed := true, recurses := true, apart := false, narrowed := true }
def MemoOrderUptoSaid : Prop := memoOrderUptoRow.holds Try.pinned (OpenSpec.upto memoOrderSpec)

/-- 'padlocklaw9.MemoRuns', WHERE WHAT IT READS IS OF BULK AT MOST 1048576: true; the input reads as it did. -/
def memoRunsUptoRow : OpenClaim := { program := "ytlfbofnfhhddbaa", sum := "baac4728e40c8fe963f15e59a74475d9a8ae7c6829696908057f552a83512f49", func := "padlock/padlocklaw9.MemoRuns", spec := "memoRuns", inPlace := ["slices.overlaps[padlock/api.Memo]"], unfollowed := true, recurses := true, apart := false, narrowed := true }
def MemoRunsUptoSaid : Prop := memoRunsUptoRow.holds Try.pinned (OpenSpec.upto memoRunsSpec)

/-- 'padlocklaw9.MemoKeeps', WHERE WHAT IT READS IS OF BULK AT MOST 1048576: true; the input reads as it did. -/
def memoKeepsUptoRow : OpenClaim := { program := "ytlfbofnfhhddbaa", sum := "baac4728e40c8fe963f15e59a74475d9a8ae7c6829696908057f552a83512f49", func := "padlock/padlocklaw9.MemoKeeps", spec := "memoKeeps", inPlace := ["slices.overlaps[padlock/api.Memo]"], unfollowed := true, recurses := true, apart := false, narrowed := true }
def MemoKeepsUptoSaid : Prop := memoKeepsUptoRow.holds Try.pinned (OpenSpec.upto memoKeepsSpec)

/-- 'padlocklaw9.MemoSame', WHERE WHAT IT READS IS OF BULK AT MOST 1048576: true; the input reads as it did. -/
def memoSameUptoRow : OpenClaim := { program := "ytlfbofnfhhddbaa", sum := "baac4728e40c8fe963f15e59a74475d9a8ae7c6829696908057f552a83512f49", func := "padlock/padlocklaw9.MemoSame", spec := "memoSame", inPlace := ["slices.overlaps[padlock/api.Memo]"], unfollowed := true, recurses := true, apart := false, narrowed := true }
def MemoSameUptoSaid : Prop := memoSameUptoRow.holds Try.pinned (OpenSpec.upto memoSameSpec)

end Rows
end Go.Proofs.Ytlfbofnfhhddbaa
