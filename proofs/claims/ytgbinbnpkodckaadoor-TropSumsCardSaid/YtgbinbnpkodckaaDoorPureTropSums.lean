/- The plain half of TropSums: sums are the document's, no more than what is forbidden, in any order the same. -/
import Derived.Test.YtgbinbnpkodckaaDoorPr4
import Derived.Test.YtgbinbnpkodckaaDoorBase
namespace Go.Proofs.YtgbinbnpkodckaaDoor.Pure
open Go.RowKit Go.Proofs.YtgbinbnpkodckaaDoor.Pr Go.Proofs.YtgbinbnpkodckaaDoorW.PrintWords Go.Proofs.YtgbinbnpkodckaaDoorW.PrintLast
theorem TropSums : hyphenlaw1_TropSums.Pure := by
  intro a b c ha hb hc
  refine ⟨5, ?_⟩
  unfold hyphenlaw1_TropSums.f
  rw [known_true, cost_at a ha, cost_at b hb, cost_at c hc]
  obtain ⟨x0, x1⟩ := cost_range a
  obtain ⟨y0, y1⟩ := cost_range b
  obtain ⟨z0, z1⟩ := cost_range c
  generalize cost a = x at *
  generalize cost b = y at *
  generalize cost c = z at *
  simp only [Option.bind_some, if_true]
  rw [add_eq x y x0 x1 y0 y1, refadd_eq x y x0 x1 y0 y1]
  simp only [Option.bind_some, if_true]
  rw [if_pos (by omega), if_pos (by omega), add_eq y x y0 y1 x0 x1]
  simp only [Option.bind_some]
  rw [if_pos (by omega), add_eq _ z (by omega) (by omega) z0 z1, add_eq y z y0 y1 z0 z1]
  simp only [Option.bind_some]
  rw [add_eq x _ x0 x1 (by omega) (by omega)]
  simp only [Option.bind_some]
  rw [if_pos (by omega), add_eq _ z (by omega) (by omega) z0 z1]
  simp only [Option.bind_some]
  rw [if_pos (by omega), add_eq x 0 x0 x1 (by omega) (by omega)]
  simp only [Option.bind_some]
  have e : min (x + 0) 1152921504606846976 = x := by omega
  rw [e]
  simp
end Go.Proofs.YtgbinbnpkodckaaDoor.Pure
