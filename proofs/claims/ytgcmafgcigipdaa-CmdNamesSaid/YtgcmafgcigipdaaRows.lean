/-
  No cell of these rows narrows 'for every input' (looked for: loops, veiled, ifaces, maps, wideKeys, modest, calm, conditions, laid).
  DERIVED. THE GIVEN ROWS OF THIS SEAT. 12 by the template 'for every input the law returns true; each argument reads behind the call as it read before'; 0 by the template 'total and deterministic' (their statements: YtgcmafgcigipdaaTotals.lean).
  GIVEN WITH THE SEED: the statements are not yours to turn. If you find one false, say at which input.
  Laid BY PROGRAM, IN A SANDBOX (cutbox-rows.mjs): the forced cells as the released guide's own fill.sh prints them over the translation 611026c68c141035… (all of the seat's roots in one cut). By AI agents, Wed Nov 11 2026. No macro, syntax, notation, axiom, sorry.
-/
import Derived.Test.YtgcmafgcigipdaaChecked
import GoSem.Claim
import GoSem.ClaimJoined
import GoSem.ClaimMapViews
import Derived.JoinedTies
import Derived.KernelRfl
namespace Go.Proofs.Ytgcmafgcigipdaa
/- THE CELL 'sum', in the pinned program and in every row, IS THE sha256 OF THE DUMP (.gsa) THAT YtgcmafgcigipdaaProg.lean LOADS. Nothing in Lean hashes anything: it is a label: what it is worth is what the hold of that sum in a sandbox is worth. -/
noncomputable def Try.pinned : Pinned := { name := "ytgcmafgcigipdaa", sum := "611026c68c14103579c1149089cb6097d11fb32a7760a2401454b36d84ec3c7a", checked := Try.checked }
namespace Rows
def none {H : Type} : Left H := { results := [], args := [] }

/-- 'padlocklaw1.OctetOrder': WHATEVER THE INPUT: true; the input reads as it did. -/
def octetOrderSpec : ChangeSpec := { name := "octetOrder", fn := fun _ => fun
  | [d1, d2] => { results := [.lit (.bool true)], args := [d1, d2] }
  | _ => none }
def octetOrderRow : OpenClaim := { program := "ytgcmafgcigipdaa", sum := "611026c68c14103579c1149089cb6097d11fb32a7760a2401454b36d84ec3c7a", func := "padlock/padlocklaw1.OctetOrder", spec := "octetOrder", unfollowed := true, recurses := true, apart := false }
def OctetOrderSaid : Prop := octetOrderRow.holds Try.pinned (OpenSpec.ofChange octetOrderSpec)

/-- ITS FALSE NEIGHBOUR: 'it returns false'. Refute it at one input. -/
def octetOrderWrong : ChangeSpec := { name := "octetOrder", fn := fun _ => fun
  | [d1, d2] => { results := [.lit (.bool false)], args := [d1, d2] }
  | _ => none }
def OctetOrderWrongFalsely : Prop := octetOrderRow.holds Try.pinned (OpenSpec.ofChange octetOrderWrong)

/-- 'padlocklaw1.OctetTexts': WHATEVER THE INPUT: true; the input reads as it did. -/
def octetTextsSpec : ChangeSpec := { name := "octetTexts", fn := fun _ => fun
  | [d1, d2, d3, d4] => { results := [.lit (.bool true)], args := [d1, d2, d3, d4] }
  | _ => none }
def octetTextsRow : OpenClaim := { program := "ytgcmafgcigipdaa", sum := "611026c68c14103579c1149089cb6097d11fb32a7760a2401454b36d84ec3c7a", func := "padlock/padlocklaw1.OctetTexts", spec := "octetTexts", unfollowed := true, recurses := true, apart := false }
def OctetTextsSaid : Prop := octetTextsRow.holds Try.pinned (OpenSpec.ofChange octetTextsSpec)

/-- ITS FALSE NEIGHBOUR: 'it returns false'. Refute it at one input. -/
def octetTextsWrong : ChangeSpec := { name := "octetTexts", fn := fun _ => fun
  | [d1, d2, d3, d4] => { results := [.lit (.bool false)], args := [d1, d2, d3, d4] }
  | _ => none }
def OctetTextsWrongFalsely : Prop := octetTextsRow.holds Try.pinned (OpenSpec.ofChange octetTextsWrong)

/-- 'padlocklaw1.OctetBack': WHATEVER THE INPUT: true; the input reads as it did. -/
def octetBackSpec : ChangeSpec := { name := "octetBack", fn := fun _ => fun
  | [d1, d2, d3, d4, d5] => { results := [.lit (.bool true)], args := [d1, d2, d3, d4, d5] }
  | _ => none }
def octetBackRow : OpenClaim := { program := "ytgcmafgcigipdaa", sum := "611026c68c14103579c1149089cb6097d11fb32a7760a2401454b36d84ec3c7a", func := "padlock/padlocklaw1.OctetBack", spec := "octetBack", unfollowed := true, recurses := true, apart := false }
def OctetBackSaid : Prop := octetBackRow.holds Try.pinned (OpenSpec.ofChange octetBackSpec)

/-- ITS FALSE NEIGHBOUR: 'it returns false'. Refute it at one input. -/
def octetBackWrong : ChangeSpec := { name := "octetBack", fn := fun _ => fun
  | [d1, d2, d3, d4, d5] => { results := [.lit (.bool false)], args := [d1, d2, d3, d4, d5] }
  | _ => none }
def OctetBackWrongFalsely : Prop := octetBackRow.holds Try.pinned (OpenSpec.ofChange octetBackWrong)

/-- 'padlocklaw1.OctetOwn': WHATEVER THE INPUT: true; the input reads as it did. -/
def octetOwnSpec : ChangeSpec := { name := "octetOwn", fn := fun _ => fun
  | [d1, d2, d3, d4] => { results := [.lit (.bool true)], args := [d1, d2, d3, d4] }
  | _ => none }
def octetOwnRow : OpenClaim := { program := "ytgcmafgcigipdaa", sum := "611026c68c14103579c1149089cb6097d11fb32a7760a2401454b36d84ec3c7a", func := "padlock/padlocklaw1.OctetOwn", spec := "octetOwn", unfollowed := true, recurses := true, apart := false }
def OctetOwnSaid : Prop := octetOwnRow.holds Try.pinned (OpenSpec.ofChange octetOwnSpec)

/-- ITS FALSE NEIGHBOUR: 'it returns false'. Refute it at one input. -/
def octetOwnWrong : ChangeSpec := { name := "octetOwn", fn := fun _ => fun
  | [d1, d2, d3, d4] => { results := [.lit (.bool false)], args := [d1, d2, d3, d4] }
  | _ => none }
def OctetOwnWrongFalsely : Prop := octetOwnRow.holds Try.pinned (OpenSpec.ofChange octetOwnWrong)

/-- 'padlocklaw1.OctetAll': WHATEVER THE INPUT: true; the input reads as it did. -/
def octetAllSpec : ChangeSpec := { name := "octetAll", fn := fun _ => fun
  | [d1, d2, d3, d4] => { results := [.lit (.bool true)], args := [d1, d2, d3, d4] }
  | _ => none }
def octetAllRow : OpenClaim := { program := "ytgcmafgcigipdaa", sum := "611026c68c14103579c1149089cb6097d11fb32a7760a2401454b36d84ec3c7a", func := "padlock/padlocklaw1.OctetAll", spec := "octetAll", unfollowed := true, recurses := true, apart := false }
def OctetAllSaid : Prop := octetAllRow.holds Try.pinned (OpenSpec.ofChange octetAllSpec)

/-- ITS FALSE NEIGHBOUR: 'it returns false'. Refute it at one input. -/
def octetAllWrong : ChangeSpec := { name := "octetAll", fn := fun _ => fun
  | [d1, d2, d3, d4] => { results := [.lit (.bool false)], args := [d1, d2, d3, d4] }
  | _ => none }
def OctetAllWrongFalsely : Prop := octetAllRow.holds Try.pinned (OpenSpec.ofChange octetAllWrong)

/-- 'padlocklaw1.OctetEdges': WHATEVER THE INPUT: true; the input reads as it did. -/
def octetEdgesSpec : ChangeSpec := { name := "octetEdges", fn := fun _ => fun
  | [d1, d2, d3] => { results := [.lit (.bool true)], args := [d1, d2, d3] }
  | _ => none }
def octetEdgesRow : OpenClaim := { program := "ytgcmafgcigipdaa", sum := "611026c68c14103579c1149089cb6097d11fb32a7760a2401454b36d84ec3c7a", func := "padlock/padlocklaw1.OctetEdges", spec := "octetEdges", unfollowed := true, recurses := true, apart := false }
def OctetEdgesSaid : Prop := octetEdgesRow.holds Try.pinned (OpenSpec.ofChange octetEdgesSpec)

/-- ITS FALSE NEIGHBOUR: 'it returns false'. Refute it at one input. -/
def octetEdgesWrong : ChangeSpec := { name := "octetEdges", fn := fun _ => fun
  | [d1, d2, d3] => { results := [.lit (.bool false)], args := [d1, d2, d3] }
  | _ => none }
def OctetEdgesWrongFalsely : Prop := octetEdgesRow.holds Try.pinned (OpenSpec.ofChange octetEdgesWrong)

/-- 'padlocklaw4.CmdAll': WHATEVER THE INPUT: true; the input reads as it did. -/
def cmdAllSpec : ChangeSpec := { name := "cmdAll", fn := fun _ => fun
  | [d1, d2, d3, d4] => { results := [.lit (.bool true)], args := [d1, d2, d3, d4] }
  | _ => none }
def cmdAllRow : OpenClaim := { program := "ytgcmafgcigipdaa", sum := "611026c68c14103579c1149089cb6097d11fb32a7760a2401454b36d84ec3c7a", func := "padlock/padlocklaw4.CmdAll", spec := "cmdAll", unfollowed := true, recurses := true, apart := false }
def CmdAllSaid : Prop := cmdAllRow.holds Try.pinned (OpenSpec.ofChange cmdAllSpec)

/-- ITS FALSE NEIGHBOUR: 'it returns false'. Refute it at one input. -/
def cmdAllWrong : ChangeSpec := { name := "cmdAll", fn := fun _ => fun
  | [d1, d2, d3, d4] => { results := [.lit (.bool false)], args := [d1, d2, d3, d4] }
  | _ => none }
def CmdAllWrongFalsely : Prop := cmdAllRow.holds Try.pinned (OpenSpec.ofChange cmdAllWrong)

/-- 'padlocklaw4.CmdNames': WHATEVER THE INPUT: true; the input reads as it did. -/
def cmdNamesSpec : ChangeSpec := { name := "cmdNames", fn := fun _ => fun
  | [d1, d2, d3] => { results := [.lit (.bool true)], args := [d1, d2, d3] }
  | _ => none }
def cmdNamesRow : OpenClaim := { program := "ytgcmafgcigipdaa", sum := "611026c68c14103579c1149089cb6097d11fb32a7760a2401454b36d84ec3c7a", func := "padlock/padlocklaw4.CmdNames", spec := "cmdNames", unfollowed := true, recurses := true, apart := false }
def CmdNamesSaid : Prop := cmdNamesRow.holds Try.pinned (OpenSpec.ofChange cmdNamesSpec)

/-- ITS FALSE NEIGHBOUR: 'it returns false'. Refute it at one input. -/
def cmdNamesWrong : ChangeSpec := { name := "cmdNames", fn := fun _ => fun
  | [d1, d2, d3] => { results := [.lit (.bool false)], args := [d1, d2, d3] }
  | _ => none }
def CmdNamesWrongFalsely : Prop := cmdNamesRow.holds Try.pinned (OpenSpec.ofChange cmdNamesWrong)

/-- 'padlocklaw4.CmdMay': WHATEVER THE INPUT: true; the input reads as it did. -/
def cmdMaySpec : ChangeSpec := { name := "cmdMay", fn := fun _ => fun
  | [d1, d2, d3, d4] => { results := [.lit (.bool true)], args := [d1, d2, d3, d4] }
  | _ => none }
def cmdMayRow : OpenClaim := { program := "ytgcmafgcigipdaa", sum := "611026c68c14103579c1149089cb6097d11fb32a7760a2401454b36d84ec3c7a", func := "padlock/padlocklaw4.CmdMay", spec := "cmdMay", unfollowed := true, recurses := true, apart := false }
def CmdMaySaid : Prop := cmdMayRow.holds Try.pinned (OpenSpec.ofChange cmdMaySpec)

/-- ITS FALSE NEIGHBOUR: 'it returns false'. Refute it at one input. -/
def cmdMayWrong : ChangeSpec := { name := "cmdMay", fn := fun _ => fun
  | [d1, d2, d3, d4] => { results := [.lit (.bool false)], args := [d1, d2, d3, d4] }
  | _ => none }
def CmdMayWrongFalsely : Prop := cmdMayRow.holds Try.pinned (OpenSpec.ofChange cmdMayWrong)

/-- 'padlocklaw4.CmdReqs': WHATEVER THE INPUT: true; the input reads as it did. -/
def cmdReqsSpec : ChangeSpec := { name := "cmdReqs", fn := fun _ => fun
  | [d1, d2, d3] => { results := [.lit (.bool true)], args := [d1, d2, d3] }
  | _ => none }
def cmdReqsRow : OpenClaim := { program := "ytgcmafgcigipdaa", sum := "611026c68c14103579c1149089cb6097d11fb32a7760a2401454b36d84ec3c7a", func := "padlock/padlocklaw4.CmdReqs", spec := "cmdReqs", unfollowed := true, recurses := true, apart := false }
def CmdReqsSaid : Prop := cmdReqsRow.holds Try.pinned (OpenSpec.ofChange cmdReqsSpec)

/-- ITS FALSE NEIGHBOUR: 'it returns false'. Refute it at one input. -/
def cmdReqsWrong : ChangeSpec := { name := "cmdReqs", fn := fun _ => fun
  | [d1, d2, d3] => { results := [.lit (.bool false)], args := [d1, d2, d3] }
  | _ => none }
def CmdReqsWrongFalsely : Prop := cmdReqsRow.holds Try.pinned (OpenSpec.ofChange cmdReqsWrong)

/-- 'padlocklaw4.CmdBack': WHATEVER THE INPUT: true; the input reads as it did. -/
def cmdBackSpec : ChangeSpec := { name := "cmdBack", fn := fun _ => fun
  | [d1, d2, d3, d4, d5, d6, d7, d8] => { results := [.lit (.bool true)], args := [d1, d2, d3, d4, d5, d6, d7, d8] }
  | _ => none }
def cmdBackRow : OpenClaim := { program := "ytgcmafgcigipdaa", sum := "611026c68c14103579c1149089cb6097d11fb32a7760a2401454b36d84ec3c7a", func := "padlock/padlocklaw4.CmdBack", spec := "cmdBack", unfollowed := true, recurses := true, apart := false }
def CmdBackSaid : Prop := cmdBackRow.holds Try.pinned (OpenSpec.ofChange cmdBackSpec)

/-- ITS FALSE NEIGHBOUR: 'it returns false'. Refute it at one input. -/
def cmdBackWrong : ChangeSpec := { name := "cmdBack", fn := fun _ => fun
  | [d1, d2, d3, d4, d5, d6, d7, d8] => { results := [.lit (.bool false)], args := [d1, d2, d3, d4, d5, d6, d7, d8] }
  | _ => none }
def CmdBackWrongFalsely : Prop := cmdBackRow.holds Try.pinned (OpenSpec.ofChange cmdBackWrong)

/-- 'padlocklaw4.CmdRow': WHATEVER THE INPUT: true; the input reads as it did. -/
def cmdRowSpec : ChangeSpec := { name := "cmdRow", fn := fun _ => fun
  | [d] => { results := [.lit (.bool true)], args := [d] }
  | _ => none }
def cmdRowRow : OpenClaim := { program := "ytgcmafgcigipdaa", sum := "611026c68c14103579c1149089cb6097d11fb32a7760a2401454b36d84ec3c7a", func := "padlock/padlocklaw4.CmdRow", spec := "cmdRow", unfollowed := true, recurses := true, apart := false }
def CmdRowSaid : Prop := cmdRowRow.holds Try.pinned (OpenSpec.ofChange cmdRowSpec)

/-- ITS FALSE NEIGHBOUR: 'it returns false'. Refute it at one input. -/
def cmdRowWrong : ChangeSpec := { name := "cmdRow", fn := fun _ => fun
  | [d] => { results := [.lit (.bool false)], args := [d] }
  | _ => none }
def CmdRowWrongFalsely : Prop := cmdRowRow.holds Try.pinned (OpenSpec.ofChange cmdRowWrong)

/- THE SECOND FORM. 'bulk': how many values and letters a reading holds, each counted each time it is reached (what is shared counts as often as it is met; a slice's spare places count too). A statement '..UptoSaid' is the law's where the arguments, and the package variables that the reading takes, are together of bulk at most 1048576: NARROWER than '..Said'. Prove '..Said' where nothing that the law and all that it calls make is longer than what came in: it says more and counts as full. Else prove '..UptoSaid'. A law counts once. -/
mutual
def uptoBulk {H : Type} : DataW H → Nat
  | .lit (.string bytes) => bytes.length + 1
  | .lit _ => 1
  | .nil => 1
  | .ptr d => uptoBulk d + 1
  | .slice elems spare => uptoBulkAll elems + uptoBulkAll spare + 1
  | .agg parts => uptoBulkAll parts + 1
  | .iface _ d => uptoBulk d + 1
  | .map entries => uptoBulkEntries entries + 1
  | .held _ => 1
def uptoBulkAll {H : Type} : List (DataW H) → Nat
  | [] => 0
  | d :: r => uptoBulk d + uptoBulkAll r
def uptoBulkEntries {H : Type} : List (Lit × DataW H) → Nat
  | [] => 0
  | x :: r => uptoBulkEntry x + uptoBulkEntries r
def uptoBulkEntry {H : Type} : Lit × DataW H → Nat
  | (.string bytes, d) => bytes.length + uptoBulk d + 1
  | (_, d) => uptoBulk d + 1
 end
def uptoSmall : (H : Type) → List (DataW H) → Bool := fun _ ds => decide (uptoBulkAll ds ≤ 1048576)
def OpenSpec.upto (s : _root_.Go.ChangeSpec) : _root_.Go.OpenSpec := { _root_.Go.OpenSpec.ofChange s with cond := some uptoSmall }

/-- 'padlocklaw1.OctetOrder', WHERE WHAT IT READS IS OF BULK AT MOST 1048576: true; the input reads as it did. -/
def octetOrderUptoRow : OpenClaim := { program := "ytgcmafgcigipdaa", sum := "611026c68c14103579c1149089cb6097d11fb32a7760a2401454b36d84ec3c7a", func := "padlock/padlocklaw1.OctetOrder", spec := "octetOrder", unfollowed := true, recurses := true, apart := false, narrowed := true }
def OctetOrderUptoSaid : Prop := octetOrderUptoRow.holds Try.pinned (OpenSpec.upto octetOrderSpec)

/-- 'padlocklaw1.OctetTexts', WHERE WHAT IT READS IS OF BULK AT MOST 1048576: true; the input reads as it did. -/
def octetTextsUptoRow : OpenClaim := { program := "ytgcmafgcigipdaa", sum := "611026c68c14103579c1149089cb6097d11fb32a7760a2401454b36d84ec3c7a", func := "padlock/padlocklaw1.OctetTexts", spec := "octetTexts", unfollowed := true, recurses := true, apart := false, narrowed := true }
def OctetTextsUptoSaid : Prop := octetTextsUptoRow.holds Try.pinned (OpenSpec.upto octetTextsSpec)

/-- 'padlocklaw1.OctetBack', WHERE WHAT IT READS IS OF BULK AT MOST 1048576: true; the input reads as it did. -/
def octetBackUptoRow : OpenClaim := { program := "ytgcmafgcigipdaa", sum := "611026c68c14103579c1149089cb6097d11fb32a7760a2401454b36d84ec3c7a", func := "padlock/padlocklaw1.OctetBack", spec := "octetBack", unfollowed := true, recurses := true, apart := false, narrowed := true }
def OctetBackUptoSaid : Prop := octetBackUptoRow.holds Try.pinned (OpenSpec.upto octetBackSpec)

/-- 'padlocklaw1.OctetOwn', WHERE WHAT IT READS IS OF BULK AT MOST 1048576: true; the input reads as it did. -/
def octetOwnUptoRow : OpenClaim := { program := "ytgcmafgcigipdaa", sum := "611026c68c14103579c1149089cb6097d11fb32a7760a2401454b36d84ec3c7a", func := "padlock/padlocklaw1.OctetOwn", spec := "octetOwn", unfollowed := true, recurses := true, apart := false, narrowed := true }
def OctetOwnUptoSaid : Prop := octetOwnUptoRow.holds Try.pinned (OpenSpec.upto octetOwnSpec)

/-- 'padlocklaw1.OctetAll', WHERE WHAT IT READS IS OF BULK AT MOST 1048576: true; the input reads as it did. -/
def octetAllUptoRow : OpenClaim := { program := "ytgcmafgcigipdaa", sum := "611026c68c14103579c1149089cb6097d11fb32a7760a2401454b36d84ec3c7a", func := "padlock/padlocklaw1.OctetAll", spec := "octetAll", unfollowed := true, recurses := true, apart := false, narrowed := true }
def OctetAllUptoSaid : Prop := octetAllUptoRow.holds Try.pinned (OpenSpec.upto octetAllSpec)

/-- 'padlocklaw1.OctetEdges', WHERE WHAT IT READS IS OF BULK AT MOST 1048576: true; the input reads as it did. -/
def octetEdgesUptoRow : OpenClaim := { program := "ytgcmafgcigipdaa", sum := "611026c68c14103579c1149089cb6097d11fb32a7760a2401454b36d84ec3c7a", func := "padlock/padlocklaw1.OctetEdges", spec := "octetEdges", unfollowed := true, recurses := true, apart := false, narrowed := true }
def OctetEdgesUptoSaid : Prop := octetEdgesUptoRow.holds Try.pinned (OpenSpec.upto octetEdgesSpec)

/-- 'padlocklaw4.CmdAll', WHERE WHAT IT READS IS OF BULK AT MOST 1048576: true; the input reads as it did. -/
def cmdAllUptoRow : OpenClaim := { program := "ytgcmafgcigipdaa", sum := "611026c68c14103579c1149089cb6097d11fb32a7760a2401454b36d84ec3c7a", func := "padlock/padlocklaw4.CmdAll", spec := "cmdAll", unfollowed := true, recurses := true, apart := false, narrowed := true }
def CmdAllUptoSaid : Prop := cmdAllUptoRow.holds Try.pinned (OpenSpec.upto cmdAllSpec)

/-- 'padlocklaw4.CmdNames', WHERE WHAT IT READS IS OF BULK AT MOST 1048576: true; the input reads as it did. -/
def cmdNamesUptoRow : OpenClaim := { program := "ytgcmafgcigipdaa", sum := "611026c68c14103579c1149089cb6097d11fb32a7760a2401454b36d84ec3c7a", func := "padlock/padlocklaw4.CmdNames", spec := "cmdNames", unfollowed := true, recurses := true, apart := false, narrowed := true }
def CmdNamesUptoSaid : Prop := cmdNamesUptoRow.holds Try.pinned (OpenSpec.upto cmdNamesSpec)

/-- 'padlocklaw4.CmdMay', WHERE WHAT IT READS IS OF BULK AT MOST 1048576: true; the input reads as it did. -/
def cmdMayUptoRow : OpenClaim := { program := "ytgcmafgcigipdaa", sum := "611026c68c14103579c1149089cb6097d11fb32a7760a2401454b36d84ec3c7a", func := "padlock/padlocklaw4.CmdMay", spec := "cmdMay", unfollowed := true, recurses := true, apart := false, narrowed := true }
def CmdMayUptoSaid : Prop := cmdMayUptoRow.holds Try.pinned (OpenSpec.upto cmdMaySpec)

/-- 'padlocklaw4.CmdReqs', WHERE WHAT IT READS IS OF BULK AT MOST 1048576: true; the input reads as it did. -/
def cmdReqsUptoRow : OpenClaim := { program := "ytgcmafgcigipdaa", sum := "611026c68c14103579c1149089cb6097d11fb32a7760a2401454b36d84ec3c7a", func := "padlock/padlocklaw4.CmdReqs", spec := "cmdReqs", unfollowed := true, recurses := true, apart := false, narrowed := true }
def CmdReqsUptoSaid : Prop := cmdReqsUptoRow.holds Try.pinned (OpenSpec.upto cmdReqsSpec)

/-- 'padlocklaw4.CmdBack', WHERE WHAT IT READS IS OF BULK AT MOST 1048576: true; the input reads as it did. -/
def cmdBackUptoRow : OpenClaim := { program := "ytgcmafgcigipdaa", sum := "611026c68c14103579c1149089cb6097d11fb32a7760a2401454b36d84ec3c7a", func := "padlock/padlocklaw4.CmdBack", spec := "cmdBack", unfollowed := true, recurses := true, apart := false, narrowed := true }
def CmdBackUptoSaid : Prop := cmdBackUptoRow.holds Try.pinned (OpenSpec.upto cmdBackSpec)

/-- 'padlocklaw4.CmdRow', WHERE WHAT IT READS IS OF BULK AT MOST 1048576: true; the input reads as it did. -/
def cmdRowUptoRow : OpenClaim := { program := "ytgcmafgcigipdaa", sum := "611026c68c14103579c1149089cb6097d11fb32a7760a2401454b36d84ec3c7a", func := "padlock/padlocklaw4.CmdRow", spec := "cmdRow", unfollowed := true, recurses := true, apart := false, narrowed := true }
def CmdRowUptoSaid : Prop := cmdRowUptoRow.holds Try.pinned (OpenSpec.upto cmdRowSpec)

end Rows
end Go.Proofs.Ytgcmafgcigipdaa
