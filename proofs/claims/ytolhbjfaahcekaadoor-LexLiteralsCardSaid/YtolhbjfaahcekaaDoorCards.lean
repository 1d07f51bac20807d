/-
  DERIVED. GIVEN WITH THE SEED: THE CARDS: each row of YtolhbjfaahcekaaDoorRows.lean that lists a variable, with what it lists TIED to the program's text (the seventh form; the later family's looks); each row that meets fmt, with fmt's text TOLD by the authors' own Lean function (tested against real Go, not proved from fmt's source: count such statements apart). THE CARD IS WHAT COUNTS. Prove the row's statement (the work); the ties are given (YtolhbjfaahcekaaDoorTie.lean); close each card by the builder's one call (the guide's Derived/Test/ToyasCard.lean, 'card_holds'). Laid BY PROGRAM, IN A SANDBOX (cutbox-door.mjs). By AI agents, Wed Nov 11 2026. No macro, syntax, notation, axiom, sorry.
-/
import Derived.Test.YtolhbjfaahcekaaDoorRows
import GoSem.ClaimSeven
namespace Go.Proofs.YtolhbjfaahcekaaDoor
namespace Rows

/-- THE TIED CARD OF 'vestrylaw08.LexLiterals'. -/
def lexLiteralsCard : Claim7 := { stood := { row := lexLiteralsRow, standIns := [], harness := (true, "3cae15db8dbf564c0f6df6e118e540faca3b099c2de2d3c3609cdd4af006ad23"), looks := false }, kinds := [], alts := [], laidByText := true, laidKinds := [.data, .data, .data, .data, .pinned], laidTests := true, laidLooks := .later }
def LexLiteralsCardSaid : Prop := Claim7.holds Tryd.pinned (.plain (OpenSpec.ofChange lexLiteralsSpec)) lexLiteralsCard

/-- THE SECOND FORM's CARD OF 'vestrylaw08.LexLiterals'. -/
def lexLiteralsUptoCard : Claim7 := { stood := { row := lexLiteralsUptoRow, standIns := [], harness := (true, "3cae15db8dbf564c0f6df6e118e540faca3b099c2de2d3c3609cdd4af006ad23"), looks := false }, kinds := [], alts := [], laidByText := true, laidKinds := [.data, .data, .data, .data, .pinned], laidTests := true, laidLooks := .later }
def LexLiteralsUptoCardSaid : Prop := Claim7.holds Tryd.pinned (.plain (OpenSpec.upto lexLiteralsSpec)) lexLiteralsUptoCard
end Rows
end Go.Proofs.YtolhbjfaahcekaaDoor
