/-
  No cell of these rows narrows 'for every input' (looked for: loops, veiled, ifaces, maps, wideKeys, modest, calm, conditions, laid).
  DERIVED. THE GIVEN ROWS OF THIS SEAT. 2 by the template 'for every input the law returns true; each argument reads behind the call as it read before'; 0 by the template 'total and deterministic' (their statements: YtolhbjfaahcekaaTotals.lean).
  GIVEN WITH THE SEED: the statements are not yours to turn. If you find one false, say at which input.
  Laid BY PROGRAM, IN A SANDBOX (cutbox-rows.mjs): the forced cells as the released guide's own fill.sh prints them over the translation 56ababf0447bfd2b… (all of the seat's roots in one cut). By AI agents, Wed Nov 11 2026. No macro, syntax, notation, axiom, sorry.
-/
import Derived.Test.YtolhbjfaahcekaaChecked
import GoSem.Claim
import GoSem.ClaimJoined
import GoSem.ClaimMapViews
import Derived.JoinedTies
import Derived.KernelRfl
namespace Go.Proofs.Ytolhbjfaahcekaa
/- THE CELL 'sum', in the pinned program and in every row, IS THE sha256 OF THE DUMP (.gsa) THAT YtolhbjfaahcekaaProg.lean LOADS. Nothing in Lean hashes anything: it is a label: what it is worth is what the hold of that sum in a sandbox is worth. -/
noncomputable def Try.pinned : Pinned := { name := "ytolhbjfaahcekaa", sum := "56ababf0447bfd2b5a119d5c364feb0f38f17817e58b34a3cf04583c18c8cc93", checked := Try.checked }
namespace Rows
def none {H : Type} : Left H := { results := [], args := [] }

/-- 'vestrylaw09.ParseBrackets': WHATEVER THE INPUT: true; the input reads as it did. -/
def parseBracketsSpec : ChangeSpec := { name := "parseBrackets", fn := fun _ => fun
  | [d] => { results := [.lit (.bool true)], args := [d] }
  | _ => none }
def parseBracketsRow : OpenClaim := { program := "ytolhbjfaahcekaa", sum := "56ababf0447bfd2b5a119d5c364feb0f38f17817e58b34a3cf04583c18c8cc93", func := "vestry/vestrylaw09.ParseBrackets", spec := "parseBrackets", inPlace := ["internal/bytealg.IndexByteString", "internal/abi.NoEscape"], unfollowed := true, recurses := true, apart := false }
def ParseBracketsSaid : Prop := parseBracketsRow.holds Try.pinned (OpenSpec.ofChange parseBracketsSpec)

/-- ITS FALSE NEIGHBOUR: 'it returns false'. Refute it at one input. -/
def parseBracketsWrong : ChangeSpec := { name := "parseBrackets", fn := fun _ => fun
  | [d] => { results := [.lit (.bool false)], args := [d] }
  | _ => none }
def ParseBracketsWrongFalsely : Prop := parseBracketsRow.holds Try.pinned (OpenSpec.ofChange parseBracketsWrong)

/-- 'vestrylaw09.ParseEmpty': WHATEVER THE INPUT: true; the input reads as it did. -/
def parseEmptySpec : ChangeSpec := { name := "parseEmpty", fn := fun _ => fun
  | [d1, d2] => { results := [.lit (.bool true)], args := [d1, d2] }
  | _ => none }
def parseEmptyRow : OpenClaim := { program := "ytolhbjfaahcekaa", sum := "56ababf0447bfd2b5a119d5c364feb0f38f17817e58b34a3cf04583c18c8cc93", func := "vestry/vestrylaw09.ParseEmpty", spec := "parseEmpty", inPlace := ["internal/bytealg.IndexByteString", "internal/abi.NoEscape"], unfollowed := true, recurses := true, apart := false }
def ParseEmptySaid : Prop := parseEmptyRow.holds Try.pinned (OpenSpec.ofChange parseEmptySpec)

/-- ITS FALSE NEIGHBOUR: 'it returns false'. Refute it at one input. -/
def parseEmptyWrong : ChangeSpec := { name := "parseEmpty", fn := fun _ => fun
  | [d1, d2] => { results := [.lit (.bool false)], args := [d1, d2] }
  | _ => none }
def ParseEmptyWrongFalsely : Prop := parseEmptyRow.holds Try.pinned (OpenSpec.ofChange parseEmptyWrong)

/- THE SECOND FORM. 'bulk': how many values and letters a reading holds, each counted each time it is reached (what is shared counts as often as it is met; a slice's spare places count too). A statement '..UptoSaid' is the law's where the arguments, and the package variables that the reading takes, are together of bulk at most 1048576: NARROWER than '..Said'. Prove '..Said' where nothing that the law and all that it calls make is longer than what came in: it says more and counts as full. Else prove '..UptoSaid'. A law counts once. -/
mutual
def uptoBulk {H : Type} : DataW H → Nat
  | .lit (.string bytes) => bytes.length + 1
  | .lit _ => 1
  | .nil => 1
  | .ptr d => uptoBulk d + 1
  | .slice elems spare => uptoBulkAll elems + uptoBulkAll spare + 1
  | .agg parts => uptoBulkAll parts + 1
  | .iface _ d => uptoBulk d + 1
  | .map entries => uptoBulkEntries entries + 1
  | .held _ => 1
def uptoBulkAll {H : Type} : List (DataW H) → Nat
  | [] => 0
  | d :: r => uptoBulk d + uptoBulkAll r
def uptoBulkEntries {H : Type} : List (Lit × DataW H) → Nat
  | [] => 0
  | x :: r => uptoBulkEntry x + uptoBulkEntries r
def uptoBulkEntry {H : Type} : Lit × DataW H → Nat
  | (.string bytes, d) => bytes.length + uptoBulk d + 1
  | (_, d) => uptoBulk d + 1
 end
def uptoSmall : (H : Type) → List (DataW H) → Bool := fun _ ds => decide (uptoBulkAll ds ≤ 1048576)
def OpenSpec.upto (s : _root_.Go.ChangeSpec) : _root_.Go.OpenSpec := { _root_.Go.OpenSpec.ofChange s with cond := some uptoSmall }

/-- 'vestrylaw09.ParseBrackets', WHERE WHAT IT READS IS OF BULK AT MOST 1048576: true; the input reads as it did. -/
def parseBracketsUptoRow : OpenClaim := { program := "ytolhbjfaahcekaa", sum := "56ababf0447bfd2b5a119d5c364feb0f38f17817e58b34a3cf04583c18c8cc93", func := "vestry/vestrylaw09.ParseBrackets", spec := "parseBrackets", inPlace := ["internal/bytealg.IndexByteString", "internal/abi.NoEscape"], unfollowed := true, recurses := true, apart := false, narrowed := true }
def ParseBracketsUptoSaid : Prop := parseBracketsUptoRow.holds Try.pinned (OpenSpec.upto parseBracketsSpec)

/-- 'vestrylaw09.ParseEmpty', WHERE WHAT IT READS IS OF BULK AT MOST 1048576: true; the input reads as it did. -/
def parseEmptyUptoRow : OpenClaim := { program := "ytolhbjfaahcekaa", sum := "56ababf0447bfd2b5a119d5c364feb0f38f17817e58b34a3cf04583c18c8cc93", func := "vestry/vestrylaw09.ParseEmpty", spec := "parseEmpty", inPlace := ["internal/bytealg.IndexByteString", "internal/abi.NoEscape"], unfollowed := true, recurses := true, apart := false, narrowed := true }
def ParseEmptyUptoSaid : Prop := parseEmptyUptoRow.holds Try.pinned (OpenSpec.upto parseEmptySpec)

end Rows
end Go.Proofs.Ytolhbjfaahcekaa
