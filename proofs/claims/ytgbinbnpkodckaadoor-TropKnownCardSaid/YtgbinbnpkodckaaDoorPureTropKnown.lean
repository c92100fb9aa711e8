/- The plain half of TropKnown: these sums and leasts are just so. -/
import Derived.Test.YtgbinbnpkodckaaDoorPr9
import Derived.Test.YtgbinbnpkodckaaDoorBase
namespace Go.Proofs.YtgbinbnpkodckaaDoor.Pure
open Go.RowKit Go.Proofs.YtgbinbnpkodckaaDoor.Pr Go.Proofs.YtgbinbnpkodckaaDoorW.PrintWords Go.Proofs.YtgbinbnpkodckaaDoorW.PrintLast
theorem TropKnown : hyphenlaw1_TropKnown.Pure := by
  intro a ha
  refine ⟨5, ?_⟩
  unfold hyphenlaw1_TropKnown.f
  rw [known_true, within_eq a 8 (by omega) (by omega)]
  have h0 := Int.emod_nonneg a (show (8 : Int) ≠ 0 by omega)
  have h1 := Int.emod_lt_of_pos a (show (0 : Int) < 8 by omega)
  generalize a % 8 = j at *
  have hj : j = 0 ∨ j = 1 ∨ j = 2 ∨ j = 3 ∨ j = 4 ∨ j = 5 ∨ j = 6 ∨ j = 7 := by omega
  rcases hj with rfl | rfl | rfl | rfl | rfl | rfl | rfl | rfl <;> decide +kernel
end Go.Proofs.YtgbinbnpkodckaaDoor.Pure
