/-
  No cell of these rows narrows 'for every input' (looked for: loops, veiled, ifaces, maps, wideKeys, modest, calm, conditions, laid).
  DERIVED. THE GIVEN ROWS OF THIS SEAT. 4 by the template 'for every input the law returns true; each argument reads behind the call as it read before'; 0 by the template 'total and deterministic' (their statements: YtgmmbdmdimkfjaaGreatTotals.lean).
  GIVEN WITH THE SEED: the statements are not yours to turn. If you find one false, say at which input.
  Laid BY PROGRAM, IN A SANDBOX (cutbox-rows.mjs): the forced cells as the released guide's own fill.sh prints them over the translation efd3cfc4099a00ef… (all of the seat's roots in one cut). By AI agents, Wed Nov 11 2026. No macro, syntax, notation, axiom, sorry.
-/
import Derived.Test.YtgmmbdmdimkfjaaGreatChecked
import GoSem.Claim
import GoSem.ClaimJoined
import GoSem.ClaimMapViews
import Derived.JoinedTies
import Derived.KernelRfl
namespace Go.Proofs.YtgmmbdmdimkfjaaGreat
/- THE CELL 'sum', in the pinned program and in every row, IS THE sha256 OF THE DUMP (.gsa) THAT YtgmmbdmdimkfjaaGreatProg.lean LOADS. Nothing in Lean hashes anything: it is a label: what it is worth is what the hold of that sum in a sandbox is worth. -/
noncomputable def Tryz.pinned : Pinned := { name := "ytgmmbdmdimkfjaagreat", sum := "efd3cfc4099a00ef7b2c49846ffdfbc184171f5970903dbe5229b30393c28100", checked := Tryz.checked }
namespace Rows
def none {H : Type} : Left H := { results := [], args := [] }

/-- 'padlocktop.TopHolder': WHATEVER THE INPUT: true; the input reads as it did. -/
def topHolderSpec : ChangeSpec := { name := "topHolder", fn := fun _ => fun
  | [d1, d2] => { results := [.lit (.bool true)], args := [d1, d2] }
  | _ => none }
def topHolderRow : OpenClaim := { program := "ytgmmbdmdimkfjaagreat", sum := "efd3cfc4099a00ef7b2c49846ffdfbc184171f5970903dbe5229b30393c28100", func := "padlock/padlocktop.TopHolder", spec := "topHolder", inPlace := ["slices.overlaps[padlock/api.Promise]", "slices.overlaps[padlock/api.Vote]", "slices.overlaps[int]", "slices.overlaps[padlock/api.Session]", "internal/bytealg.abigen_runtime_cmpstring", "slices.overlaps[padlock/api.Lock]", "slices.overlaps[padlock/api.Memo]", "math.archFloor", "math.Float64bits", "math.Float64frombits", "math.archTrunc"], unfollowed := true, recurses := true, apart := false }
def TopHolderSaid : Prop := topHolderRow.holds Tryz.pinned (OpenSpec.ofChange topHolderSpec)

/-- ITS FALSE NEIGHBOUR: 'it returns false'. Refute it at one input. -/
def topHolderWrong : ChangeSpec := { name := "topHolder", fn := fun _ => fun
  | [d1, d2] => { results := [.lit (.bool false)], args := [d1, d2] }
  | _ => none }
def TopHolderWrongFalsely : Prop := topHolderRow.holds Tryz.pinned (OpenSpec.ofChange topHolderWrong)

/-- 'padlocktop.TopTokens': WHATEVER THE INPUT: true; the input reads as it did. -/
def topTokensSpec : ChangeSpec := { name := "topTokens", fn := fun _ => fun
  | [d1, d2] => { results := [.lit (.bool true)], args := [d1, d2] }
  | _ => none }
def topTokensRow : OpenClaim := { program := "ytgmmbdmdimkfjaagreat", sum := "efd3cfc4099a00ef7b2c49846ffdfbc184171f5970903dbe5229b30393c28100", func := "padlock/padlocktop.TopTokens", spec := "topTokens", inPlace := ["slices.overlaps[padlock/api.Promise]", "slices.overlaps[padlock/api.Vote]", "slices.overlaps[int]", "slices.overlaps[padlock/api.Session]", "internal/bytealg.abigen_runtime_cmpstring", "slices.overlaps[padlock/api.Lock]", "slices.overlaps[padlock/api.Memo]", "math.archFloor", "math.Float64bits", "math.Float64frombits", "math.archTrunc"], unfollowed := true, recurses := true, apart := false }
def TopTokensSaid : Prop := topTokensRow.holds Tryz.pinned (OpenSpec.ofChange topTokensSpec)

/-- ITS FALSE NEIGHBOUR: 'it returns false'. Refute it at one input. -/
def topTokensWrong : ChangeSpec := { name := "topTokens", fn := fun _ => fun
  | [d1, d2] => { results := [.lit (.bool false)], args := [d1, d2] }
  | _ => none }
def TopTokensWrongFalsely : Prop := topTokensRow.holds Tryz.pinned (OpenSpec.ofChange topTokensWrong)

/-- 'padlocktop.TopIdle': WHATEVER THE INPUT: true; the input reads as it did. -/
def topIdleSpec : ChangeSpec := { name := "topIdle", fn := fun _ => fun
  | [d1, d2] => { results := [.lit (.bool true)], args := [d1, d2] }
  | _ => none }
def topIdleRow : OpenClaim := { program := "ytgmmbdmdimkfjaagreat", sum := "efd3cfc4099a00ef7b2c49846ffdfbc184171f5970903dbe5229b30393c28100", func := "padlock/padlocktop.TopIdle", spec := "topIdle", inPlace := ["slices.overlaps[padlock/api.Promise]", "slices.overlaps[padlock/api.Vote]", "slices.overlaps[int]", "slices.overlaps[padlock/api.Session]", "internal/bytealg.abigen_runtime_cmpstring", "slices.overlaps[padlock/api.Lock]", "slices.overlaps[padlock/api.Memo]", "math.archFloor", "math.Float64bits", "math.Float64frombits", "math.archTrunc"], unfollowed := true, recurses := true, apart := false }
def TopIdleSaid : Prop := topIdleRow.holds Tryz.pinned (OpenSpec.ofChange topIdleSpec)

/-- ITS FALSE NEIGHBOUR: 'it returns false'. Refute it at one input. -/
def topIdleWrong : ChangeSpec := { name := "topIdle", fn := fun _ => fun
  | [d1, d2] => { results := [.lit (.bool false)], args := [d1, d2] }
  | _ => none }
def TopIdleWrongFalsely : Prop := topIdleRow.holds Tryz.pinned (OpenSpec.ofChange topIdleWrong)

/-- 'padlocktop.TopBounds': WHATEVER THE INPUT: true; the input reads as it did. -/
def topBoundsSpec : ChangeSpec := { name := "topBounds", fn := fun _ => fun
  | [d1, d2] => { results := [.lit (.bool true)], args := [d1, d2] }
  | _ => none }
def topBoundsRow : OpenClaim := { program := "ytgmmbdmdimkfjaagreat", sum := "efd3cfc4099a00ef7b2c49846ffdfbc184171f5970903dbe5229b30393c28100", func := "padlock/padlocktop.TopBounds", spec := "topBounds", inPlace := ["slices.overlaps[padlock/api.Promise]", "slices.overlaps[padlock/api.Vote]", "slices.overlaps[int]", "slices.overlaps[padlock/api.Session]", "internal/bytealg.abigen_runtime_cmpstring", "slices.overlaps[padlock/api.Lock]", "slices.overlaps[padlock/api.Memo]", "math.archFloor", "math.Float64bits", "math.Float64frombits", "math.archTrunc"], unfollowed := true, recurses := true, apart := false }
def TopBoundsSaid : Prop := topBoundsRow.holds Tryz.pinned (OpenSpec.ofChange topBoundsSpec)

/-- ITS FALSE NEIGHBOUR: 'it returns false'. Refute it at one input. -/
def topBoundsWrong : ChangeSpec := { name := "topBounds", fn := fun _ => fun
  | [d1, d2] => { results := [.lit (.bool false)], args := [d1, d2] }
  | _ => none }
def TopBoundsWrongFalsely : Prop := topBoundsRow.holds Tryz.pinned (OpenSpec.ofChange topBoundsWrong)

/- THE SECOND FORM. 'bulk': how many values and letters a reading holds, each counted each time it is reached (what is shared counts as often as it is met; a slice's spare places count too). A statement '..UptoSaid' is the law's where the arguments, and the package variables that the reading takes, are together of bulk at most 1048576: NARROWER than '..Said'. Prove '..Said' where nothing that the law and all that it calls make is longer than what came in: it says more and counts as full. Else prove '..UptoSaid'. A law counts once. -/
mutual
def uptoBulk {H : Type} : DataW H → Nat
  | .lit (.string bytes) => bytes.length + 1
  | .lit _ => 1
  | .nil => 1
  | .ptr d => uptoBulk d + 1
  | .slice elems spare => uptoBulkAll elems + uptoBulkAll spare + 1
  | .agg parts => uptoBulkAll parts + 1
  | .iface _ d => uptoBulk d + 1
  | .map entries => uptoBulkEntries entries + 1
  | .held _ => 1
def uptoBulkAll {H : Type} : List (DataW H) → Nat
  | [] => 0
  | d :: r => uptoBulk d + uptoBulkAll r
def uptoBulkEntries {H : Type} : List (Lit × DataW H) → Nat
  | [] => 0
  | x :: r => uptoBulkEntry x + uptoBulkEntries r
def uptoBulkEntry {H : Type} : Lit × DataW H → Nat
  | (.string bytes, d) => bytes.length + uptoBulk d + 1
  | (_, d) => uptoBulk d + 1
 end
def uptoSmall : (H : Type) → List (DataW H) → Bool := fun _ ds => decide (uptoBulkAll ds ≤ 1048576)
def OpenSpec.upto (s : _root_.Go.ChangeSpec) : _root_.Go.OpenSpec := { _root_.Go.OpenSpec.ofChange s with cond := some uptoSmall }

/-- 'padlocktop.TopHolder', WHERE WHAT IT READS IS OF BULK AT MOST 1048576: true; the input reads as it did. -/
def topHolderUptoRow : OpenClaim := { program := "ytgmmbdmdimkfjaagreat", sum := "efd3cfc4099a00ef7b2c49846ffdfbc184171f5970903dbe5229b30393c28100", func := "padlock/padlocktop.TopHolder", spec := "topHolder", inPlace := ["slices.overlaps[padlock/api.Promise]", "slices.overlaps[padlock/api.Vote]", "slices.overlaps[int]", "slices.overlaps[padlock/api.Session]", "internal/bytealg.abigen_runtime_cmpstring", "slices.overlaps[padlock/api.Lock]", "slices.overlaps[padlock/api.Memo]", "math.archFloor", "math.Float64bits", "math.Float64frombits", "math.archTrunc"], unfollowed := true, recurses := true, apart := false, narrowed := true }
def TopHolderUptoSaid : Prop := topHolderUptoRow.holds Tryz.pinned (OpenSpec.upto topHolderSpec)

/-- 'padlocktop.TopTokens', WHERE WHAT IT READS IS OF BULK AT MOST 1048576: true; the input reads as it did. -/
def topTokensUptoRow : OpenClaim := { program := "ytgmmbdmdimkfjaagreat", sum := "efd3cfc4099a00ef7b2c49846ffdfbc184171f5970903dbe5229b30393c28100", func := "padlock/padlocktop.TopTokens", spec := "topTokens", inPlace := ["slices.overlaps[padlock/api.Promise]", "slices.overlaps[padlock/api.Vote]", "slices.overlaps[int]", "slices.overlaps[padlock/api.Session]", "internal/bytealg.abigen_runtime_cmpstring", "slices.overlaps[padlock/api.Lock]", "slices.overlaps[padlock/api.Memo]", "math.archFloor", "math.Float64bits", "math.Float64frombits", "math.archTrunc"], unfollowed := true, recurses := true, apart := false, narrowed := true }
def TopTokensUptoSaid : Prop := topTokensUptoRow.holds Tryz.pinned (OpenSpec.upto topTokensSpec)

/-- 'padlocktop.TopIdle', WHERE WHAT IT READS IS OF BULK AT MOST 1048576: true; the input reads as it did. -/
def topIdleUptoRow : OpenClaim := { program := "ytgmmbdmdimkfjaagreat", sum := "efd3cfc4099a00ef7b2c49846ffdfbc184171f5970903dbe5229b30393c28100", func := "padlock/padlocktop.TopIdle", spec := "topIdle", inPlace := ["slices.overlaps[padlock/api.Promise]", "slices.overlaps[padlock/api.Vote]", "slices.overlaps[int]", "slices.overlaps[padlock/api.Session]", "internal/bytealg.abigen_runtime_cmpstring", "slices.overlaps[padlock/api.Lock]", "slices.overlaps[padlock/api.Memo]", "math.archFloor", "math.Float64bits", "math.Float64frombits", "math.archTrunc"], unfollowed := true, recurses := true, apart := false, narrowed := true }
def TopIdleUptoSaid : Prop := topIdleUptoRow.holds Tryz.pinned (OpenSpec.upto topIdleSpec)

/-- 'padlocktop.TopBounds', WHERE WHAT IT READS IS OF BULK AT MOST 1048576: true; the input reads as it did. -/
def topBoundsUptoRow : OpenClaim := { program := "ytgmmbdmdimkfjaagreat", sum := "efd3cfc4099a00ef7b2c49846ffdfbc184171f5970903dbe5229b30393c28100", func := "padlock/padlocktop.TopBounds", spec := "topBounds", inPlace := ["slices.overlaps[padlock/api.Promise]", "slices.overlaps[padlock/api.Vote]", "slices.overlaps[int]", "slices.overlaps[padlock/api.Session]", "internal/bytealg.abigen_runtime_cmpstring", "slices.overlaps[padlock/api.Lock]", "slices.overlaps[padlock/api.Memo]", "math.archFloor", "math.Float64bits", "math.Float64frombits", "math.archTrunc"], unfollowed := true, recurses := true, apart := false, narrowed := true }
def TopBoundsUptoSaid : Prop := topBoundsUptoRow.holds Tryz.pinned (OpenSpec.upto topBoundsSpec)

end Rows
end Go.Proofs.YtgmmbdmdimkfjaaGreat
