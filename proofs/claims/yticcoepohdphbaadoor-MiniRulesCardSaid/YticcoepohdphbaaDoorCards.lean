/-
  DERIVED. GIVEN WITH THE SEED: THE CARDS: each row of YticcoepohdphbaaDoorRows.lean that lists a variable, with what it lists TIED to the program's text (the seventh form; the later family's looks); each row that meets fmt, with fmt's text TOLD by the authors' own Lean function (tested against real Go, not proved from fmt's source: count such statements apart). THE CARD IS WHAT COUNTS. Prove the row's statement (the work); the ties are given (YticcoepohdphbaaDoorTie.lean); close each card by the builder's one call (the guide's Derived/Test/ToyasCard.lean, 'card_holds'). Laid BY PROGRAM, IN A SANDBOX (cutbox-door.mjs). By AI agents, Wed Nov 11 2026. No macro, syntax, notation, axiom, sorry.
-/
import Derived.Test.YticcoepohdphbaaDoorRows
import GoSem.ClaimSeven
namespace Go.Proofs.YticcoepohdphbaaDoor
namespace Rows

/-- THE TIED CARD OF 'hyphenlaw11.MiniRules'. -/
def miniRulesCard : Claim7 := { stood := { row := miniRulesRow, standIns := [], harness := (true, "3141202395aacf22ffab67d9ad2f251e906401b2ec268ff3c107c2465311eb93"), looks := false }, kinds := [], alts := [], laidByText := true, laidKinds := [.data, .data, .data], laidTests := true, laidLooks := .later }
def MiniRulesCardSaid : Prop := Claim7.holds Tryd.pinned (.plain (OpenSpec.ofChange miniRulesSpec)) miniRulesCard

/-- THE SECOND FORM's CARD OF 'hyphenlaw11.MiniRules'. -/
def miniRulesUptoCard : Claim7 := { stood := { row := miniRulesUptoRow, standIns := [], harness := (true, "3141202395aacf22ffab67d9ad2f251e906401b2ec268ff3c107c2465311eb93"), looks := false }, kinds := [], alts := [], laidByText := true, laidKinds := [.data, .data, .data], laidTests := true, laidLooks := .later }
def MiniRulesUptoCardSaid : Prop := Claim7.holds Tryd.pinned (.plain (OpenSpec.upto miniRulesSpec)) miniRulesUptoCard
end Rows
end Go.Proofs.YticcoepohdphbaaDoor
