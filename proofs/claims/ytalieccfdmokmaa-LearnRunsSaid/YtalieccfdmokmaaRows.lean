/-
  No cell of these rows narrows 'for every input' (looked for: loops, veiled, ifaces, maps, wideKeys, modest, calm, conditions, laid).
  DERIVED. THE GIVEN ROWS OF THIS SEAT. 13 by the template 'for every input the law returns true; each argument reads behind the call as it read before'; 0 by the template 'total and deterministic' (their statements: YtalieccfdmokmaaTotals.lean).
  GIVEN WITH THE SEED: the statements are not yours to turn. If you find one false, say at which input.
  Laid BY PROGRAM, IN A SANDBOX (cutbox-rows.mjs): the forced cells as the released guide's own fill.sh prints them over the translation d6687702fa14769f… (all of the seat's roots in one cut). By AI agents, Wed Nov 11 2026. No macro, syntax, notation, axiom, sorry.
-/
import Derived.Test.YtalieccfdmokmaaChecked
import GoSem.Claim
import GoSem.ClaimJoined
import GoSem.ClaimMapViews
import Derived.JoinedTies
import Derived.KernelRfl
namespace Go.Proofs.Ytalieccfdmokmaa
/- THE CELL 'sum', in the pinned program and in every row, IS THE sha256 OF THE DUMP (.gsa) THAT YtalieccfdmokmaaProg.lean LOADS. Nothing in Lean hashes anything: it is a label: what it is worth is what the hold of that sum in a sandbox is worth. -/
noncomputable def Try.pinned : Pinned := { name := "ytalieccfdmokmaa", sum := "d6687702fa14769f190ab6c7f955149f2727eef191bb3c6798438377441d58fb", checked := Try.checked }
namespace Rows
def none {H : Type} : Left H := { results := [], args := [] }

/-- 'padlocklaw12.BatchRefuses': WHATEVER THE INPUT: true; the input reads as it did. -/
def batchRefusesSpec : ChangeSpec := { name := "batchRefuses", fn := fun _ => fun
  | [d1, d2, d3] => { results := [.lit (.bool true)], args := [d1, d2, d3] }
  | _ => none }
def batchRefusesRow : OpenClaim := { program := "ytalieccfdmokmaa", sum := "d6687702fa14769f190ab6c7f955149f2727eef191bb3c6798438377441d58fb", func := "padlock/padlocklaw12.BatchRefuses", spec := "batchRefuses", unfollowed := true, recurses := true, apart := false }
def BatchRefusesSaid : Prop := batchRefusesRow.holds Try.pinned (OpenSpec.ofChange batchRefusesSpec)

/-- ITS FALSE NEIGHBOUR: 'it returns false'. Refute it at one input. -/
def batchRefusesWrong : ChangeSpec := { name := "batchRefuses", fn := fun _ => fun
  | [d1, d2, d3] => { results := [.lit (.bool false)], args := [d1, d2, d3] }
  | _ => none }
def BatchRefusesWrongFalsely : Prop := batchRefusesRow.holds Try.pinned (OpenSpec.ofChange batchRefusesWrong)

/-- 'padlocklaw15.LearnOrder': WHATEVER THE INPUT: true; the input reads as it did. -/
def learnOrderSpec : ChangeSpec := { name := "learnOrder", fn := fun _ => fun
  | [d1, d2, d3, d4] => { results := [.lit (.bool true)], args := [d1, d2, d3, d4] }
  | _ => none }
def learnOrderRow : OpenClaim := { program := "ytalieccfdmokmaa", sum := "d6687702fa14769f190ab6c7f955149f2727eef191bb3c6798438377441d58fb", func := "padlock/padlocklaw15.LearnOrder", spec := "learnOrder", inPlace := ["slices.overlaps[int]"], unfollowed := true, recurses := true, apart := false }
def LearnOrderSaid : Prop := learnOrderRow.holds Try.pinned (OpenSpec.ofChange learnOrderSpec)

/-- ITS FALSE NEIGHBOUR: 'it returns false'. Refute it at one input. -/
def learnOrderWrong : ChangeSpec := { name := "learnOrder", fn := fun _ => fun
  | [d1, d2, d3, d4] => { results := [.lit (.bool false)], args := [d1, d2, d3, d4] }
  | _ => none }
def LearnOrderWrongFalsely : Prop := learnOrderRow.holds Try.pinned (OpenSpec.ofChange learnOrderWrong)

/-- 'padlocklaw15.LearnBallots': WHATEVER THE INPUT: true; the input reads as it did. -/
def learnBallotsSpec : ChangeSpec := { name := "learnBallots", fn := fun _ => fun
  | [d1, d2, d3, d4, d5] => { results := [.lit (.bool true)], args := [d1, d2, d3, d4, d5] }
  | _ => none }
def learnBallotsRow : OpenClaim := { program := "ytalieccfdmokmaa", sum := "d6687702fa14769f190ab6c7f955149f2727eef191bb3c6798438377441d58fb", func := "padlock/padlocklaw15.LearnBallots", spec := "learnBallots", inPlace := ["slices.overlaps[int]"], unfollowed := true, recurses := true, apart := false }
def LearnBallotsSaid : Prop := learnBallotsRow.holds Try.pinned (OpenSpec.ofChange learnBallotsSpec)

/-- ITS FALSE NEIGHBOUR: 'it returns false'. Refute it at one input. -/
def learnBallotsWrong : ChangeSpec := { name := "learnBallots", fn := fun _ => fun
  | [d1, d2, d3, d4, d5] => { results := [.lit (.bool false)], args := [d1, d2, d3, d4, d5] }
  | _ => none }
def LearnBallotsWrongFalsely : Prop := learnBallotsRow.holds Try.pinned (OpenSpec.ofChange learnBallotsWrong)

/-- 'padlocklaw14.AcceptPromises': WHATEVER THE INPUT: true; the input reads as it did. -/
def acceptPromisesSpec : ChangeSpec := { name := "acceptPromises", fn := fun _ => fun
  | [d1, d2, d3, d4] => { results := [.lit (.bool true)], args := [d1, d2, d3, d4] }
  | _ => none }
def acceptPromisesRow : OpenClaim := { program := "ytalieccfdmokmaa", sum := "d6687702fa14769f190ab6c7f955149f2727eef191bb3c6798438377441d58fb", func := "padlock/padlocklaw14.AcceptPromises", spec := "acceptPromises", inPlace := ["slices.overlaps[padlock/api.Vote]"], unfollowed := true, recurses := true, apart := false }
def AcceptPromisesSaid : Prop := acceptPromisesRow.holds Try.pinned (OpenSpec.ofChange acceptPromisesSpec)

/-- ITS FALSE NEIGHBOUR: 'it returns false'. Refute it at one input. -/
def acceptPromisesWrong : ChangeSpec := { name := "acceptPromises", fn := fun _ => fun
  | [d1, d2, d3, d4] => { results := [.lit (.bool false)], args := [d1, d2, d3, d4] }
  | _ => none }
def AcceptPromisesWrongFalsely : Prop := acceptPromisesRow.holds Try.pinned (OpenSpec.ofChange acceptPromisesWrong)

/-- 'padlocklaw15.LearnRuns': WHATEVER THE INPUT: true; the input reads as it did. -/
def learnRunsSpec : ChangeSpec := { name := "learnRuns", fn := fun _ => fun
  | [d1, d2] => { results := [.lit (.bool true)], args := [d1, d2] }
  | _ => none }
def learnRunsRow : OpenClaim := { program := "ytalieccfdmokmaa", sum := "d6687702fa14769f190ab6c7f955149f2727eef191bb3c6798438377441d58fb", func := "padlock/padlocklaw15.LearnRuns", spec := "learnRuns", inPlace := ["slices.overlaps[int]"], unfollowed := true, recurses := true, apart := false }
def LearnRunsSaid : Prop := learnRunsRow.holds Try.pinned (OpenSpec.ofChange learnRunsSpec)

/-- ITS FALSE NEIGHBOUR: 'it returns false'. Refute it at one input. -/
def learnRunsWrong : ChangeSpec := { name := "learnRuns", fn := fun _ => fun
  | [d1, d2] => { results := [.lit (.bool false)], args := [d1, d2] }
  | _ => none }
def LearnRunsWrongFalsely : Prop := learnRunsRow.holds Try.pinned (OpenSpec.ofChange learnRunsWrong)

/-- 'padlocklaw15.LearnStays': WHATEVER THE INPUT: true; the input reads as it did. -/
def learnStaysSpec : ChangeSpec := { name := "learnStays", fn := fun _ => fun
  | [d1, d2, d3] => { results := [.lit (.bool true)], args := [d1, d2, d3] }
  | _ => none }
def learnStaysRow : OpenClaim := { program := "ytalieccfdmokmaa", sum := "d6687702fa14769f190ab6c7f955149f2727eef191bb3c6798438377441d58fb", func := "padlock/padlocklaw15.LearnStays", spec := "learnStays", inPlace := ["slices.overlaps[int]"], unfollowed := true, recurses := true, apart := false }
def LearnStaysSaid : Prop := learnStaysRow.holds Try.pinned (OpenSpec.ofChange learnStaysSpec)

/-- ITS FALSE NEIGHBOUR: 'it returns false'. Refute it at one input. -/
def learnStaysWrong : ChangeSpec := { name := "learnStays", fn := fun _ => fun
  | [d1, d2, d3] => { results := [.lit (.bool false)], args := [d1, d2, d3] }
  | _ => none }
def LearnStaysWrongFalsely : Prop := learnStaysRow.holds Try.pinned (OpenSpec.ofChange learnStaysWrong)

/-- 'padlocklaw15.LearnRoom': WHATEVER THE INPUT: true; the input reads as it did. -/
def learnRoomSpec : ChangeSpec := { name := "learnRoom", fn := fun _ => fun
  | [d1, d2, d3] => { results := [.lit (.bool true)], args := [d1, d2, d3] }
  | _ => none }
def learnRoomRow : OpenClaim := { program := "ytalieccfdmokmaa", sum := "d6687702fa14769f190ab6c7f955149f2727eef191bb3c6798438377441d58fb", func := "padlock/padlocklaw15.LearnRoom", spec := "learnRoom", inPlace := ["slices.overlaps[int]"], unfollowed := true, recurses := true, apart := false }
def LearnRoomSaid : Prop := learnRoomRow.holds Try.pinned (OpenSpec.ofChange learnRoomSpec)

/-- ITS FALSE NEIGHBOUR: 'it returns false'. Refute it at one input. -/
def learnRoomWrong : ChangeSpec := { name := "learnRoom", fn := fun _ => fun
  | [d1, d2, d3] => { results := [.lit (.bool false)], args := [d1, d2, d3] }
  | _ => none }
def LearnRoomWrongFalsely : Prop := learnRoomRow.holds Try.pinned (OpenSpec.ofChange learnRoomWrong)

/-- 'padlocklaw12.BatchAll': WHATEVER THE INPUT: true; the input reads as it did. -/
def batchAllSpec : ChangeSpec := { name := "batchAll", fn := fun _ => fun
  | [d1, d2, d3, d4, d5] => { results := [.lit (.bool true)], args := [d1, d2, d3, d4, d5] }
  | _ => none }
def batchAllRow : OpenClaim := { program := "ytalieccfdmokmaa", sum := "d6687702fa14769f190ab6c7f955149f2727eef191bb3c6798438377441d58fb", func := "padlock/padlocklaw12.BatchAll", spec := "batchAll", unfollowed := true, recurses := true, apart := false }
def BatchAllSaid : Prop := batchAllRow.holds Try.pinned (OpenSpec.ofChange batchAllSpec)

/-- ITS FALSE NEIGHBOUR: 'it returns false'. Refute it at one input. -/
def batchAllWrong : ChangeSpec := { name := "batchAll", fn := fun _ => fun
  | [d1, d2, d3, d4, d5] => { results := [.lit (.bool false)], args := [d1, d2, d3, d4, d5] }
  | _ => none }
def BatchAllWrongFalsely : Prop := batchAllRow.holds Try.pinned (OpenSpec.ofChange batchAllWrong)

/-- 'padlocklaw12.BatchBack': WHATEVER THE INPUT: true; the input reads as it did. -/
def batchBackSpec : ChangeSpec := { name := "batchBack", fn := fun _ => fun
  | [d1, d2, d3, d4, d5] => { results := [.lit (.bool true)], args := [d1, d2, d3, d4, d5] }
  | _ => none }
def batchBackRow : OpenClaim := { program := "ytalieccfdmokmaa", sum := "d6687702fa14769f190ab6c7f955149f2727eef191bb3c6798438377441d58fb", func := "padlock/padlocklaw12.BatchBack", spec := "batchBack", unfollowed := true, recurses := true, apart := false }
def BatchBackSaid : Prop := batchBackRow.holds Try.pinned (OpenSpec.ofChange batchBackSpec)

/-- ITS FALSE NEIGHBOUR: 'it returns false'. Refute it at one input. -/
def batchBackWrong : ChangeSpec := { name := "batchBack", fn := fun _ => fun
  | [d1, d2, d3, d4, d5] => { results := [.lit (.bool false)], args := [d1, d2, d3, d4, d5] }
  | _ => none }
def BatchBackWrongFalsely : Prop := batchBackRow.holds Try.pinned (OpenSpec.ofChange batchBackWrong)

/-- 'padlocklaw14.AcceptRuns': WHATEVER THE INPUT: true; the input reads as it did. -/
def acceptRunsSpec : ChangeSpec := { name := "acceptRuns", fn := fun _ => fun
  | [d1, d2] => { results := [.lit (.bool true)], args := [d1, d2] }
  | _ => none }
def acceptRunsRow : OpenClaim := { program := "ytalieccfdmokmaa", sum := "d6687702fa14769f190ab6c7f955149f2727eef191bb3c6798438377441d58fb", func := "padlock/padlocklaw14.AcceptRuns", spec := "acceptRuns", inPlace := ["slices.overlaps[padlock/api.Vote]"], unfollowed := true, recurses := true, apart := false }
def AcceptRunsSaid : Prop := acceptRunsRow.holds Try.pinned (OpenSpec.ofChange acceptRunsSpec)

/-- ITS FALSE NEIGHBOUR: 'it returns false'. Refute it at one input. -/
def acceptRunsWrong : ChangeSpec := { name := "acceptRuns", fn := fun _ => fun
  | [d1, d2] => { results := [.lit (.bool false)], args := [d1, d2] }
  | _ => none }
def AcceptRunsWrongFalsely : Prop := acceptRunsRow.holds Try.pinned (OpenSpec.ofChange acceptRunsWrong)

/-- 'padlocklaw14.AcceptBounds': WHATEVER THE INPUT: true; the input reads as it did. -/
def acceptBoundsSpec : ChangeSpec := { name := "acceptBounds", fn := fun _ => fun
  | [d] => { results := [.lit (.bool true)], args := [d] }
  | _ => none }
def acceptBoundsRow : OpenClaim := { program := "ytalieccfdmokmaa", sum := "d6687702fa14769f190ab6c7f955149f2727eef191bb3c6798438377441d58fb", func := "padlock/padlocklaw14.AcceptBounds", spec := "acceptBounds", inPlace := ["slices.overlaps[padlock/api.Vote]"], unfollowed := true, recurses := true, apart := false }
def AcceptBoundsSaid : Prop := acceptBoundsRow.holds Try.pinned (OpenSpec.ofChange acceptBoundsSpec)

/-- ITS FALSE NEIGHBOUR: 'it returns false'. Refute it at one input. -/
def acceptBoundsWrong : ChangeSpec := { name := "acceptBounds", fn := fun _ => fun
  | [d] => { results := [.lit (.bool false)], args := [d] }
  | _ => none }
def AcceptBoundsWrongFalsely : Prop := acceptBoundsRow.holds Try.pinned (OpenSpec.ofChange acceptBoundsWrong)

/-- 'padlocklaw14.AcceptTrims': WHATEVER THE INPUT: true; the input reads as it did. -/
def acceptTrimsSpec : ChangeSpec := { name := "acceptTrims", fn := fun _ => fun
  | [d1, d2, d3] => { results := [.lit (.bool true)], args := [d1, d2, d3] }
  | _ => none }
def acceptTrimsRow : OpenClaim := { program := "ytalieccfdmokmaa", sum := "d6687702fa14769f190ab6c7f955149f2727eef191bb3c6798438377441d58fb", func := "padlock/padlocklaw14.AcceptTrims", spec := "acceptTrims", inPlace := ["slices.overlaps[padlock/api.Vote]"], unfollowed := true, recurses := true, apart := false }
def AcceptTrimsSaid : Prop := acceptTrimsRow.holds Try.pinned (OpenSpec.ofChange acceptTrimsSpec)

/-- ITS FALSE NEIGHBOUR: 'it returns false'. Refute it at one input. -/
def acceptTrimsWrong : ChangeSpec := { name := "acceptTrims", fn := fun _ => fun
  | [d1, d2, d3] => { results := [.lit (.bool false)], args := [d1, d2, d3] }
  | _ => none }
def AcceptTrimsWrongFalsely : Prop := acceptTrimsRow.holds Try.pinned (OpenSpec.ofChange acceptTrimsWrong)

/-- 'padlocklaw14.AcceptLast': WHATEVER THE INPUT: true; the input reads as it did. -/
def acceptLastSpec : ChangeSpec := { name := "acceptLast", fn := fun _ => fun
  | [d1, d2, d3, d4] => { results := [.lit (.bool true)], args := [d1, d2, d3, d4] }
  | _ => none }
def acceptLastRow : OpenClaim := { program := "ytalieccfdmokmaa", sum := "d6687702fa14769f190ab6c7f955149f2727eef191bb3c6798438377441d58fb", func := "padlock/padlocklaw14.AcceptLast", spec := "acceptLast", inPlace := ["slices.overlaps[padlock/api.Vote]"], unfollowed := true, recurses := true, apart := false }
def AcceptLastSaid : Prop := acceptLastRow.holds Try.pinned (OpenSpec.ofChange acceptLastSpec)

/-- ITS FALSE NEIGHBOUR: 'it returns false'. Refute it at one input. -/
def acceptLastWrong : ChangeSpec := { name := "acceptLast", fn := fun _ => fun
  | [d1, d2, d3, d4] => { results := [.lit (.bool false)], args := [d1, d2, d3, d4] }
  | _ => none }
def AcceptLastWrongFalsely : Prop := acceptLastRow.holds Try.pinned (OpenSpec.ofChange acceptLastWrong)

/- THE SECOND FORM. 'bulk': how many values and letters a reading holds, each counted each time it is reached (what is shared counts as often as it is met; a slice's spare places count too). A statement '..UptoSaid' is the law's where the arguments, and the package variables that the reading takes, are together of bulk at most 1048576: NARROWER than '..Said'. Prove '..Said' where nothing that the law and all that it calls make is longer than what came in: it says more and counts as full. Else prove '..UptoSaid'. A law counts once. -/
mutual
def uptoBulk {H : Type} : DataW H → Nat
  | .lit (.string bytes) => bytes.length + 1
  | .lit _ => 1
  | .nil => 1
  | .ptr d => uptoBulk d + 1
  | .slice elems spare => uptoBulkAll elems + uptoBulkAll spare + 1
  | .agg parts => uptoBulkAll parts + 1
  | .iface _ d => uptoBulk d + 1
  | .map entries => uptoBulkEntries entries + 1
  | .held _ => 1
def uptoBulkAll {H : Type} : List (DataW H) → Nat
  | [] => 0
  | d :: r => uptoBulk d + uptoBulkAll r
def uptoBulkEntries {H : Type} : List (Lit × DataW H) → Nat
  | [] => 0
  | x :: r => uptoBulkEntry x + uptoBulkEntries r
def uptoBulkEntry {H : Type} : Lit × DataW H → Nat
  | (.string bytes, d) => bytes.length + uptoBulk d + 1
  | (_, d) => uptoBulk d + 1
 end
def uptoSmall : (H : Type) → List (DataW H) → Bool := fun _ ds => decide (uptoBulkAll ds ≤ 1048576)
def OpenSpec.upto (s : _root_.Go.ChangeSpec) : _root_.Go.OpenSpec := { _root_.Go.OpenSpec.ofChange s with cond := some uptoSmall }

/-- 'padlocklaw12.BatchRefuses', WHERE WHAT IT READS IS OF BULK AT MOST 1048576: true; the input reads as it did. -/
def batchRefusesUptoRow : OpenClaim := { program := "ytalieccfdmokmaa", sum := "d6687702fa14769f190ab6c7f955149f2727eef191bb3c6798438377441d58fb", func := "padlock/padlocklaw12.BatchRefuses", spec := "batchRefuses", unfollowed := true, recurses := true, apart := false, narrowed := true }
def BatchRefusesUptoSaid : Prop := batchRefusesUptoRow.holds Try.pinned (OpenSpec.upto batchRefusesSpec)

/-- 'padlocklaw15.LearnOrder', WHERE WHAT IT READS IS OF BULK AT MOST 1048576: true; the input reads as it did. -/
def learnOrderUptoRow : OpenClaim := { program := "ytalieccfdmokmaa", sum := "d6687702fa14769f190ab6c7f955149f2727eef191bb3c6798438377441d58fb", func := "padlock/padlocklaw15.LearnOrder", spec := "learnOrder", inPlace := ["slices.overlaps[int]"], unfollowed := true, recurses := true, apart := false, narrowed := true }
def LearnOrderUptoSaid : Prop := learnOrderUptoRow.holds Try.pinned (OpenSpec.upto learnOrderSpec)

/-- 'padlocklaw15.LearnBallots', WHERE WHAT IT READS IS OF BULK AT MOST 1048576: true; the input reads as it did. -/
def learnBallotsUptoRow : OpenClaim := { program := "ytalieccfdmokmaa", sum := "d6687702fa14769f190ab6c7f955149f2727eef191bb3c6798438377441d58fb", func := "padlock/padlocklaw15.LearnBallots", spec := "learnBallots", inPlace := ["slices.overlaps[int]"], unfollowed := true, recurses := true, apart := false, narrowed := true }
def LearnBallotsUptoSaid : Prop := learnBallotsUptoRow.holds Try.pinned (OpenSpec.upto learnBallotsSpec)

/-- 'padlocklaw14.AcceptPromises', WHERE WHAT IT READS IS OF BULK AT MOST 1048576: true; the input reads as it did. -/
def acceptPromisesUptoRow : OpenClaim := { program := "ytalieccfdmokmaa", sum := "d6687702fa14769f190ab6c7f955149f2727eef191bb3c6798438377441d58fb", func := "padlock/padlocklaw14.AcceptPromises", spec := "acceptPromises", inPlace := ["slices.overlaps[padlock/api.Vote]"], unfollowed := true, recurses := true, apart := false, narrowed := true }
def AcceptPromisesUptoSaid : Prop := acceptPromisesUptoRow.holds Try.pinned (OpenSpec.upto acceptPromisesSpec)

/-- 'padlocklaw15.LearnRuns', WHERE WHAT IT READS IS OF BULK AT MOST 1048576: true; the input reads as it did. -/
def learnRunsUptoRow : OpenClaim := { program := "ytalieccfdmokmaa", sum := "d6687702fa14769f190ab6c7f955149f2727eef191bb3c6798438377441d58fb", func := "padlock/padlocklaw15.LearnRuns", spec := "learnRuns", inPlace := ["slices.overlaps[int]"], unfollowed := true, recurses := true, apart := false, narrowed := true }
def LearnRunsUptoSaid : Prop := learnRunsUptoRow.holds Try.pinned (OpenSpec.upto learnRunsSpec)

/-- 'padlocklaw15.LearnStays', WHERE WHAT IT READS IS OF BULK AT MOST 1048576: true; the input reads as it did. -/
def learnStaysUptoRow : OpenClaim := { program := "ytalieccfdmokmaa", sum := "d6687702fa14769f190ab6c7f955149f2727eef191bb3c6798438377441d58fb", func := "padlock/padlocklaw15.LearnStays", spec := "learnStays", inPlace := ["slices.overlaps[int]"], unfollowed := true, recurses := true, apart := false, narrowed := true }
def LearnStaysUptoSaid : Prop := learnStaysUptoRow.holds Try.pinned (OpenSpec.upto learnStaysSpec)

/-- 'padlocklaw15.LearnRoom', WHERE WHAT IT READS IS OF BULK AT MOST 1048576: true; the input reads as it did. -/
def learnRoomUptoRow : OpenClaim := { program := "ytalieccfdmokmaa", sum := "d6687702fa14769f190ab6c7f955149f2727eef191bb3c6798438377441d58fb", func := "padlock/padlocklaw15.LearnRoom", spec := "learnRoom", inPlace := ["slices.overlaps[int]"], unfollowed := true, recurses := true, apart := false, narrowed := true }
def LearnRoomUptoSaid : Prop := learnRoomUptoRow.holds Try.pinned (OpenSpec.upto learnRoomSpec)

/-- 'padlocklaw12.BatchAll', WHERE WHAT IT READS IS OF BULK AT MOST 1048576: true; the input reads as it did. -/
def batchAllUptoRow : OpenClaim := { program := "ytalieccfdmokmaa", sum := "d6687702fa14769f190ab6c7f955149f2727eef191bb3c6798438377441d58fb", func := "padlock/padlocklaw12.BatchAll", spec := "batchAll", unfollowed := true, recurses := true, apart := false, narrowed := true }
def BatchAllUptoSaid : Prop := batchAllUptoRow.holds Try.pinned (OpenSpec.upto batchAllSpec)

/-- 'padlocklaw12.BatchBack', WHERE WHAT IT READS IS OF BULK AT MOST 1048576: true; the input reads as it did. -/
def batchBackUptoRow : OpenClaim := { program := "ytalieccfdmokmaa", sum := "d6687702fa14769f190ab6c7f955149f2727eef191bb3c6798438377441d58fb", func := "padlock/padlocklaw12.BatchBack", spec := "batchBack", unfollowed := true, recurses := true, apart := false, narrowed := true }
def BatchBackUptoSaid : Prop := batchBackUptoRow.holds Try.pinned (OpenSpec.upto batchBackSpec)

/-- 'padlocklaw14.AcceptRuns', WHERE WHAT IT READS IS OF BULK AT MOST 1048576: true; the input reads as it did. -/
def acceptRunsUptoRow : OpenClaim := { program := "ytalieccfdmokmaa", sum := "d6687702fa14769f190ab6c7f955149f2727eef191bb3c6798438377441d58fb", func := "padlock/padlocklaw14.AcceptRuns", spec := "acceptRuns", inPlace := ["slices.overlaps[padlock/api.Vote]"], unfollowed := true, recurses := true, apart := false, narrowed := true }
def AcceptRunsUptoSaid : Prop := acceptRunsUptoRow.holds Try.pinned (OpenSpec.upto acceptRunsSpec)

/-- 'padlocklaw14.AcceptBounds', WHERE WHAT IT READS IS OF BULK AT MOST 1048576: true; the input reads as it did. -/
def acceptBoundsUptoRow : OpenClaim := { program := "ytalieccfdmokmaa", sum := "d6687702fa14769f190ab6c7f955149f2727eef191bb3c6798438377441d58fb", func := "padlock/padlocklaw14.AcceptBounds", spec := "acceptBounds", inPlace := ["slices.overlaps[padlock/api.Vote]"], unfollowed := true, recurses := true, apart := false, narrowed := true }
def AcceptBoundsUptoSaid : Prop := acceptBoundsUptoRow.holds Try.pinned (OpenSpec.upto acceptBoundsSpec)

/-- 'padlocklaw14.AcceptTrims', WHERE WHAT IT READS IS OF BULK AT MOST 1048576: true; the input reads as it did. -/
def acceptTrimsUptoRow : OpenClaim := { program := "ytalieccfdmokmaa", sum := "d6687702fa14769f190ab6c7f955149f2727eef191bb3c6798438377441d58fb", func := "padlock/padlocklaw14.AcceptTrims", spec := "acceptTrims", inPlace := ["slices.overlaps[padlock/api.Vote]"], unfollowed := true, recurses := true, apart := false, narrowed := true }
def AcceptTrimsUptoSaid : Prop := acceptTrimsUptoRow.holds Try.pinned (OpenSpec.upto acceptTrimsSpec)

/-- 'padlocklaw14.AcceptLast', WHERE WHAT IT READS IS OF BULK AT MOST 1048576: true; the input reads as it did. -/
def acceptLastUptoRow : OpenClaim := { program := "ytalieccfdmokmaa", sum := "d6687702fa14769f190ab6c7f955149f2727eef191bb3c6798438377441d58fb", func := "padlock/padlocklaw14.AcceptLast", spec := "acceptLast", inPlace := ["slices.overlaps[padlock/api.Vote]"], unfollowed := true, recurses := true, apart := false, narrowed := true }
def AcceptLastUptoSaid : Prop := acceptLastUptoRow.holds Try.pinned (OpenSpec.upto acceptLastSpec)

end Rows
end Go.Proofs.Ytalieccfdmokmaa
