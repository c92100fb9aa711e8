/-
  DERIVED. GIVEN WITH THE SEED: THE CARDS: each row of YtgbinbnpkodckaaDoorRows.lean that lists a variable, with what it lists TIED to the program's text (the seventh form; the later family's looks); each row that meets fmt, with fmt's text TOLD by the authors' own Lean function (tested against real Go, not proved from fmt's source: count such statements apart). THE CARD IS WHAT COUNTS. Prove the row's statement (the work); the ties are given (YtgbinbnpkodckaaDoorTie.lean); close each card by the builder's one call (the guide's Derived/Test/ToyasCard.lean, 'card_holds'). Laid BY PROGRAM, IN A SANDBOX (cutbox-door.mjs). By AI agents, Wed Nov 11 2026. No macro, syntax, notation, axiom, sorry.
-/
import Derived.Test.YtgbinbnpkodckaaDoorRows
import GoSem.ClaimSeven
namespace Go.Proofs.YtgbinbnpkodckaaDoor
namespace Rows

/-- THE TIED CARD OF 'hyphenlaw1.TropSums'. -/
def tropSumsCard : Claim7 := { stood := { row := tropSumsRow, standIns := [], harness := (true, "1de47866525a9a8f978c8179e0f3707165f07362e769e597b515d756aa225dd7"), looks := false }, kinds := [], alts := [], laidByText := true, laidKinds := [.data, .data, .data], laidTests := true, laidLooks := .later }
def TropSumsCardSaid : Prop := Claim7.holds Tryd.pinned (.plain (OpenSpec.ofChange tropSumsSpec)) tropSumsCard

/-- THE TIED CARD OF 'hyphenlaw1.TropLeast'. -/
def tropLeastCard : Claim7 := { stood := { row := tropLeastRow, standIns := [], harness := (true, "1de47866525a9a8f978c8179e0f3707165f07362e769e597b515d756aa225dd7"), looks := false }, kinds := [], alts := [], laidByText := true, laidKinds := [.data, .data, .data], laidTests := true, laidLooks := .later }
def TropLeastCardSaid : Prop := Claim7.holds Tryd.pinned (.plain (OpenSpec.ofChange tropLeastSpec)) tropLeastCard

/-- THE TIED CARD OF 'hyphenlaw1.TropVecs'. -/
def tropVecsCard : Claim7 := { stood := { row := tropVecsRow, standIns := [], harness := (true, "1de47866525a9a8f978c8179e0f3707165f07362e769e597b515d756aa225dd7"), looks := false }, kinds := [], alts := [], laidByText := true, laidKinds := [.data, .data, .data], laidTests := true, laidLooks := .later }
def TropVecsCardSaid : Prop := Claim7.holds Tryd.pinned (.plain (OpenSpec.ofChange tropVecsSpec)) tropVecsCard

/-- THE TIED CARD OF 'hyphenlaw1.TropTexts'. -/
def tropTextsCard : Claim7 := { stood := { row := tropTextsRow, standIns := [], harness := (true, "1de47866525a9a8f978c8179e0f3707165f07362e769e597b515d756aa225dd7"), looks := false }, kinds := [], alts := [], laidByText := true, laidKinds := [.data, .data, .data], laidTests := true, laidLooks := .later }
def TropTextsCardSaid : Prop := Claim7.holds Tryd.pinned (.plain (OpenSpec.ofChange tropTextsSpec)) tropTextsCard

/-- THE TIED CARD OF 'hyphenlaw1.TropKnown'. -/
def tropKnownCard : Claim7 := { stood := { row := tropKnownRow, standIns := [], harness := (true, "1de47866525a9a8f978c8179e0f3707165f07362e769e597b515d756aa225dd7"), looks := false }, kinds := [], alts := [], laidByText := true, laidKinds := [.data, .data, .data], laidTests := true, laidLooks := .later }
def TropKnownCardSaid : Prop := Claim7.holds Tryd.pinned (.plain (OpenSpec.ofChange tropKnownSpec)) tropKnownCard

/-- THE TIED CARD OF 'hyphenlaw1.TropRows'. -/
def tropRowsCard : Claim7 := { stood := { row := tropRowsRow, standIns := [], harness := (true, "1de47866525a9a8f978c8179e0f3707165f07362e769e597b515d756aa225dd7"), looks := false }, kinds := [], alts := [], laidByText := true, laidKinds := [.data, .data, .data], laidTests := true, laidLooks := .later }
def TropRowsCardSaid : Prop := Claim7.holds Tryd.pinned (.plain (OpenSpec.ofChange tropRowsSpec)) tropRowsCard

/-- THE TIED CARD OF 'hyphenlaw1.TropOwn'. -/
def tropOwnCard : Claim7 := { stood := { row := tropOwnRow, standIns := [], harness := (true, "1de47866525a9a8f978c8179e0f3707165f07362e769e597b515d756aa225dd7"), looks := false }, kinds := [], alts := [], laidByText := true, laidKinds := [.data, .data, .data], laidTests := true, laidLooks := .later }
def TropOwnCardSaid : Prop := Claim7.holds Tryd.pinned (.plain (OpenSpec.ofChange tropOwnSpec)) tropOwnCard

/-- THE SECOND FORM's CARD OF 'hyphenlaw1.TropSums'. -/
def tropSumsUptoCard : Claim7 := { stood := { row := tropSumsUptoRow, standIns := [], harness := (true, "1de47866525a9a8f978c8179e0f3707165f07362e769e597b515d756aa225dd7"), looks := false }, kinds := [], alts := [], laidByText := true, laidKinds := [.data, .data, .data], laidTests := true, laidLooks := .later }
def TropSumsUptoCardSaid : Prop := Claim7.holds Tryd.pinned (.plain (OpenSpec.upto tropSumsSpec)) tropSumsUptoCard

/-- THE SECOND FORM's CARD OF 'hyphenlaw1.TropLeast'. -/
def tropLeastUptoCard : Claim7 := { stood := { row := tropLeastUptoRow, standIns := [], harness := (true, "1de47866525a9a8f978c8179e0f3707165f07362e769e597b515d756aa225dd7"), looks := false }, kinds := [], alts := [], laidByText := true, laidKinds := [.data, .data, .data], laidTests := true, laidLooks := .later }
def TropLeastUptoCardSaid : Prop := Claim7.holds Tryd.pinned (.plain (OpenSpec.upto tropLeastSpec)) tropLeastUptoCard

/-- THE SECOND FORM's CARD OF 'hyphenlaw1.TropVecs'. -/
def tropVecsUptoCard : Claim7 := { stood := { row := tropVecsUptoRow, standIns := [], harness := (true, "1de47866525a9a8f978c8179e0f3707165f07362e769e597b515d756aa225dd7"), looks := false }, kinds := [], alts := [], laidByText := true, laidKinds := [.data, .data, .data], laidTests := true, laidLooks := .later }
def TropVecsUptoCardSaid : Prop := Claim7.holds Tryd.pinned (.plain (OpenSpec.upto tropVecsSpec)) tropVecsUptoCard

/-- THE SECOND FORM's CARD OF 'hyphenlaw1.TropTexts'. -/
def tropTextsUptoCard : Claim7 := { stood := { row := tropTextsUptoRow, standIns := [], harness := (true, "1de47866525a9a8f978c8179e0f3707165f07362e769e597b515d756aa225dd7"), looks := false }, kinds := [], alts := [], laidByText := true, laidKinds := [.data, .data, .data], laidTests := true, laidLooks := .later }
def TropTextsUptoCardSaid : Prop := Claim7.holds Tryd.pinned (.plain (OpenSpec.upto tropTextsSpec)) tropTextsUptoCard

/-- THE SECOND FORM's CARD OF 'hyphenlaw1.TropKnown'. -/
def tropKnownUptoCard : Claim7 := { stood := { row := tropKnownUptoRow, standIns := [], harness := (true, "1de47866525a9a8f978c8179e0f3707165f07362e769e597b515d756aa225dd7"), looks := false }, kinds := [], alts := [], laidByText := true, laidKinds := [.data, .data, .data], laidTests := true, laidLooks := .later }
def TropKnownUptoCardSaid : Prop := Claim7.holds Tryd.pinned (.plain (OpenSpec.upto tropKnownSpec)) tropKnownUptoCard

/-- THE SECOND FORM's CARD OF 'hyphenlaw1.TropRows'. -/
def tropRowsUptoCard : Claim7 := { stood := { row := tropRowsUptoRow, standIns := [], harness := (true, "1de47866525a9a8f978c8179e0f3707165f07362e769e597b515d756aa225dd7"), looks := false }, kinds := [], alts := [], laidByText := true, laidKinds := [.data, .data, .data], laidTests := true, laidLooks := .later }
def TropRowsUptoCardSaid : Prop := Claim7.holds Tryd.pinned (.plain (OpenSpec.upto tropRowsSpec)) tropRowsUptoCard

/-- THE SECOND FORM's CARD OF 'hyphenlaw1.TropOwn'. -/
def tropOwnUptoCard : Claim7 := { stood := { row := tropOwnUptoRow, standIns := [], harness := (true, "1de47866525a9a8f978c8179e0f3707165f07362e769e597b515d756aa225dd7"), looks := false }, kinds := [], alts := [], laidByText := true, laidKinds := [.data, .data, .data], laidTests := true, laidLooks := .later }
def TropOwnUptoCardSaid : Prop := Claim7.holds Tryd.pinned (.plain (OpenSpec.upto tropOwnSpec)) tropOwnUptoCard
end Rows
end Go.Proofs.YtgbinbnpkodckaaDoor
