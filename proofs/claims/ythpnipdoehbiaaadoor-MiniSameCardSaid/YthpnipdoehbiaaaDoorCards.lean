/-
  DERIVED. GIVEN WITH THE SEED: THE CARDS: each row of YthpnipdoehbiaaaDoorRows.lean that lists a variable, with what it lists TIED to the program's text (the seventh form; the later family's looks); each row that meets fmt, with fmt's text TOLD by the authors' own Lean function (tested against real Go, not proved from fmt's source: count such statements apart). THE CARD IS WHAT COUNTS. Prove the row's statement (the work); the ties are given (YthpnipdoehbiaaaDoorTie.lean); close each card by the builder's one call (the guide's Derived/Test/ToyasCard.lean, 'card_holds'). Laid BY PROGRAM, IN A SANDBOX (cutbox-door.mjs). By AI agents, Wed Nov 11 2026. No macro, syntax, notation, axiom, sorry.
-/
import Derived.Test.YthpnipdoehbiaaaDoorRows
import GoSem.ClaimSeven
namespace Go.Proofs.YthpnipdoehbiaaaDoor
namespace Rows

/-- THE TIED CARD OF 'hyphenlaw11.MiniAll'. -/
def miniAllCard : Claim7 := { stood := { row := miniAllRow, standIns := [], harness := (true, "33e73efa0728d1c6619cbaada48379969459add48f99ba37f7c56a98f2c4ed70"), looks := false }, kinds := [], alts := [], laidByText := true, laidKinds := [.data, .data, .data], laidTests := true, laidLooks := .later }
def MiniAllCardSaid : Prop := Claim7.holds Tryd.pinned (.plain (OpenSpec.ofChange miniAllSpec)) miniAllCard

/-- THE TIED CARD OF 'hyphenlaw11.MiniSays'. -/
def miniSaysCard : Claim7 := { stood := { row := miniSaysRow, standIns := [], harness := (true, "33e73efa0728d1c6619cbaada48379969459add48f99ba37f7c56a98f2c4ed70"), looks := false }, kinds := [], alts := [], laidByText := true, laidKinds := [.data, .data, .data], laidTests := true, laidLooks := .later }
def MiniSaysCardSaid : Prop := Claim7.holds Tryd.pinned (.plain (OpenSpec.ofChange miniSaysSpec)) miniSaysCard

/-- THE TIED CARD OF 'hyphenlaw11.MiniFewest'. -/
def miniFewestCard : Claim7 := { stood := { row := miniFewestRow, standIns := [], harness := (true, "33e73efa0728d1c6619cbaada48379969459add48f99ba37f7c56a98f2c4ed70"), looks := false }, kinds := [], alts := [], laidByText := true, laidKinds := [.data, .data, .data], laidTests := true, laidLooks := .later }
def MiniFewestCardSaid : Prop := Claim7.holds Tryd.pinned (.plain (OpenSpec.ofChange miniFewestSpec)) miniFewestCard

/-- THE TIED CARD OF 'hyphenlaw11.MiniSame'. -/
def miniSameCard : Claim7 := { stood := { row := miniSameRow, standIns := [], harness := (true, "33e73efa0728d1c6619cbaada48379969459add48f99ba37f7c56a98f2c4ed70"), looks := false }, kinds := [], alts := [], laidByText := true, laidKinds := [.data, .data, .data], laidTests := true, laidLooks := .later }
def MiniSameCardSaid : Prop := Claim7.holds Tryd.pinned (.plain (OpenSpec.ofChange miniSameSpec)) miniSameCard

/-- THE TIED CARD OF 'hyphenlaw11.MiniPicks'. -/
def miniPicksCard : Claim7 := { stood := { row := miniPicksRow, standIns := [], harness := (true, "33e73efa0728d1c6619cbaada48379969459add48f99ba37f7c56a98f2c4ed70"), looks := false }, kinds := [], alts := [], laidByText := true, laidKinds := [.data, .data, .data], laidTests := true, laidLooks := .later }
def MiniPicksCardSaid : Prop := Claim7.holds Tryd.pinned (.plain (OpenSpec.ofChange miniPicksSpec)) miniPicksCard

/-- THE TIED CARD OF 'hyphenlaw11.MiniAgain'. -/
def miniAgainCard : Claim7 := { stood := { row := miniAgainRow, standIns := [], harness := (true, "33e73efa0728d1c6619cbaada48379969459add48f99ba37f7c56a98f2c4ed70"), looks := false }, kinds := [], alts := [], laidByText := true, laidKinds := [.data, .data, .data], laidTests := true, laidLooks := .later }
def MiniAgainCardSaid : Prop := Claim7.holds Tryd.pinned (.plain (OpenSpec.ofChange miniAgainSpec)) miniAgainCard

/-- THE TIED CARD OF 'hyphenlaw11.MiniNames'. -/
def miniNamesCard : Claim7 := { stood := { row := miniNamesRow, standIns := [], harness := (true, "33e73efa0728d1c6619cbaada48379969459add48f99ba37f7c56a98f2c4ed70"), looks := false }, kinds := [], alts := [], laidByText := true, laidKinds := [.data, .data, .data], laidTests := true, laidLooks := .later }
def MiniNamesCardSaid : Prop := Claim7.holds Tryd.pinned (.plain (OpenSpec.ofChange miniNamesSpec)) miniNamesCard

/-- THE TIED CARD OF 'hyphenlaw11.MiniOne'. -/
def miniOneCard : Claim7 := { stood := { row := miniOneRow, standIns := [], harness := (true, "33e73efa0728d1c6619cbaada48379969459add48f99ba37f7c56a98f2c4ed70"), looks := false }, kinds := [], alts := [], laidByText := true, laidKinds := [.data, .data, .data], laidTests := true, laidLooks := .later }
def MiniOneCardSaid : Prop := Claim7.holds Tryd.pinned (.plain (OpenSpec.ofChange miniOneSpec)) miniOneCard

/-- THE TIED CARD OF 'hyphenlaw11.MiniCounts'. -/
def miniCountsCard : Claim7 := { stood := { row := miniCountsRow, standIns := [], harness := (true, "33e73efa0728d1c6619cbaada48379969459add48f99ba37f7c56a98f2c4ed70"), looks := false }, kinds := [], alts := [], laidByText := true, laidKinds := [.data, .data, .data], laidTests := true, laidLooks := .later }
def MiniCountsCardSaid : Prop := Claim7.holds Tryd.pinned (.plain (OpenSpec.ofChange miniCountsSpec)) miniCountsCard

/-- THE TIED CARD OF 'hyphenlaw11.MiniOwn'. -/
def miniOwnCard : Claim7 := { stood := { row := miniOwnRow, standIns := [], harness := (true, "33e73efa0728d1c6619cbaada48379969459add48f99ba37f7c56a98f2c4ed70"), looks := false }, kinds := [], alts := [], laidByText := true, laidKinds := [.data, .data, .data], laidTests := true, laidLooks := .later }
def MiniOwnCardSaid : Prop := Claim7.holds Tryd.pinned (.plain (OpenSpec.ofChange miniOwnSpec)) miniOwnCard

/-- THE SECOND FORM's CARD OF 'hyphenlaw11.MiniAll'. -/
def miniAllUptoCard : Claim7 := { stood := { row := miniAllUptoRow, standIns := [], harness := (true, "33e73efa0728d1c6619cbaada48379969459add48f99ba37f7c56a98f2c4ed70"), looks := false }, kinds := [], alts := [], laidByText := true, laidKinds := [.data, .data, .data], laidTests := true, laidLooks := .later }
def MiniAllUptoCardSaid : Prop := Claim7.holds Tryd.pinned (.plain (OpenSpec.upto miniAllSpec)) miniAllUptoCard

/-- THE SECOND FORM's CARD OF 'hyphenlaw11.MiniSays'. -/
def miniSaysUptoCard : Claim7 := { stood := { row := miniSaysUptoRow, standIns := [], harness := (true, "33e73efa0728d1c6619cbaada48379969459add48f99ba37f7c56a98f2c4ed70"), looks := false }, kinds := [], alts := [], laidByText := true, laidKinds := [.data, .data, .data], laidTests := true, laidLooks := .later }
def MiniSaysUptoCardSaid : Prop := Claim7.holds Tryd.pinned (.plain (OpenSpec.upto miniSaysSpec)) miniSaysUptoCard

/-- THE SECOND FORM's CARD OF 'hyphenlaw11.MiniFewest'. -/
def miniFewestUptoCard : Claim7 := { stood := { row := miniFewestUptoRow, standIns := [], harness := (true, "33e73efa0728d1c6619cbaada48379969459add48f99ba37f7c56a98f2c4ed70"), looks := false }, kinds := [], alts := [], laidByText := true, laidKinds := [.data, .data, .data], laidTests := true, laidLooks := .later }
def MiniFewestUptoCardSaid : Prop := Claim7.holds Tryd.pinned (.plain (OpenSpec.upto miniFewestSpec)) miniFewestUptoCard

/-- THE SECOND FORM's CARD OF 'hyphenlaw11.MiniSame'. -/
def miniSameUptoCard : Claim7 := { stood := { row := miniSameUptoRow, standIns := [], harness := (true, "33e73efa0728d1c6619cbaada48379969459add48f99ba37f7c56a98f2c4ed70"), looks := false }, kinds := [], alts := [], laidByText := true, laidKinds := [.data, .data, .data], laidTests := true, laidLooks := .later }
def MiniSameUptoCardSaid : Prop := Claim7.holds Tryd.pinned (.plain (OpenSpec.upto miniSameSpec)) miniSameUptoCard

/-- THE SECOND FORM's CARD OF 'hyphenlaw11.MiniPicks'. -/
def miniPicksUptoCard : Claim7 := { stood := { row := miniPicksUptoRow, standIns := [], harness := (true, "33e73efa0728d1c6619cbaada48379969459add48f99ba37f7c56a98f2c4ed70"), looks := false }, kinds := [], alts := [], laidByText := true, laidKinds := [.data, .data, .data], laidTests := true, laidLooks := .later }
def MiniPicksUptoCardSaid : Prop := Claim7.holds Tryd.pinned (.plain (OpenSpec.upto miniPicksSpec)) miniPicksUptoCard

/-- THE SECOND FORM's CARD OF 'hyphenlaw11.MiniAgain'. -/
def miniAgainUptoCard : Claim7 := { stood := { row := miniAgainUptoRow, standIns := [], harness := (true, "33e73efa0728d1c6619cbaada48379969459add48f99ba37f7c56a98f2c4ed70"), looks := false }, kinds := [], alts := [], laidByText := true, laidKinds := [.data, .data, .data], laidTests := true, laidLooks := .later }
def MiniAgainUptoCardSaid : Prop := Claim7.holds Tryd.pinned (.plain (OpenSpec.upto miniAgainSpec)) miniAgainUptoCard

/-- THE SECOND FORM's CARD OF 'hyphenlaw11.MiniNames'. -/
def miniNamesUptoCard : Claim7 := { stood := { row := miniNamesUptoRow, standIns := [], harness := (true, "33e73efa0728d1c6619cbaada48379969459add48f99ba37f7c56a98f2c4ed70"), looks := false }, kinds := [], alts := [], laidByText := true, laidKinds := [.data, .data, .data], laidTests := true, laidLooks := .later }
def MiniNamesUptoCardSaid : Prop := Claim7.holds Tryd.pinned (.plain (OpenSpec.upto miniNamesSpec)) miniNamesUptoCard

/-- THE SECOND FORM's CARD OF 'hyphenlaw11.MiniOne'. -/
def miniOneUptoCard : Claim7 := { stood := { row := miniOneUptoRow, standIns := [], harness := (true, "33e73efa0728d1c6619cbaada48379969459add48f99ba37f7c56a98f2c4ed70"), looks := false }, kinds := [], alts := [], laidByText := true, laidKinds := [.data, .data, .data], laidTests := true, laidLooks := .later }
def MiniOneUptoCardSaid : Prop := Claim7.holds Tryd.pinned (.plain (OpenSpec.upto miniOneSpec)) miniOneUptoCard

/-- THE SECOND FORM's CARD OF 'hyphenlaw11.MiniCounts'. -/
def miniCountsUptoCard : Claim7 := { stood := { row := miniCountsUptoRow, standIns := [], harness := (true, "33e73efa0728d1c6619cbaada48379969459add48f99ba37f7c56a98f2c4ed70"), looks := false }, kinds := [], alts := [], laidByText := true, laidKinds := [.data, .data, .data], laidTests := true, laidLooks := .later }
def MiniCountsUptoCardSaid : Prop := Claim7.holds Tryd.pinned (.plain (OpenSpec.upto miniCountsSpec)) miniCountsUptoCard

/-- THE SECOND FORM's CARD OF 'hyphenlaw11.MiniOwn'. -/
def miniOwnUptoCard : Claim7 := { stood := { row := miniOwnUptoRow, standIns := [], harness := (true, "33e73efa0728d1c6619cbaada48379969459add48f99ba37f7c56a98f2c4ed70"), looks := false }, kinds := [], alts := [], laidByText := true, laidKinds := [.data, .data, .data], laidTests := true, laidLooks := .later }
def MiniOwnUptoCardSaid : Prop := Claim7.holds Tryd.pinned (.plain (OpenSpec.upto miniOwnSpec)) miniOwnUptoCard
end Rows
end Go.Proofs.YthpnipdoehbiaaaDoor
