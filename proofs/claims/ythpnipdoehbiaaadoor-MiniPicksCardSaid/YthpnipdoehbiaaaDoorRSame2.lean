/- Machines that are the same are told to be. -/
import Derived.Test.YthpnipdoehbiaaaDoorRTh
import Derived.Test.YthpnipdoehbiaaaDoorRPr22
import Derived.Test.YthpnipdoehbiaaaDoorRPr23
namespace Go.Proofs.YthpnipdoehbiaaaDoor.Pure
open Go.RowKit Go.Proofs.YthpnipdoehbiaaaDoor.Pr Go.Proofs.YthpnipdoehbiaaaDoorW.PrintWords Go.Proofs.YthpnipdoehbiaaaDoorW.PrintLast
set_option linter.unusedVariables false
set_option linter.unusedSimpArgs false
section
variable {rows : List (List Int)}
theorem same10 {emits : List (List S53)} (hr : rows.length ≤ 1000000) (ho : emits.length ≤ 1000000) (hs : ∀ i : Int, (rd_L1 rows i).length ≤ 1000000) (he : ∀ i : Int, (rd_L9 emits i).length ≤ 1000000) : Tells (fun k => hyphenref10_Same.f k rows emits rows emits) true := by
  have l1 : ∀ (m j : Nat), emits.length - j = m → j ≤ emits.length → Tells (fun k => hyphenref10_Same.l1 k (j : Int) rows emits rows emits) true := by
    intro m
    induction m with
    | zero =>
      intro j hm hj
      obtain rfl : j = emits.length := by omega
      refine Tells.succ ?_
      simp only [hyphenref10_Same.l1, if_neg (show ¬ ((emits.length : Int) < (emits.length : Int)) by omega)]
      exact Tells.pure _
    | succ m ih =>
      intro j hm hj
      refine Tells.succ ?_
      simp only [hyphenref10_Same.l1, if_pos (show (j : Int) < (emits.length : Int) by omega), if_pos (show (0 : Int) ≤ (j : Int) by omega), wrap_nat (show j < 1000000000000 by omega)]
      refine Tells.bind (vecs_same (he _)) ?_
      simp only [if_true]
      exact ih (j + 1) (by omega) (by omega)
  have l0 : ∀ (m i : Nat), rows.length - i = m → i ≤ rows.length → Tells (fun k => hyphenref10_Same.l0 k (i : Int) rows emits rows emits) true := by
    intro m
    induction m with
    | zero =>
      intro i hm hi
      obtain rfl : i = rows.length := by omega
      refine Tells.succ ?_
      simp only [hyphenref10_Same.l0, if_neg (show ¬ ((rows.length : Int) < (rows.length : Int)) by omega)]
      exact l1 _ 0 rfl (Nat.zero_le _)
    | succ m ih =>
      intro i hm hi
      refine Tells.succ ?_
      simp only [hyphenref10_Same.l0, if_pos (show (i : Int) < (rows.length : Int) by omega), if_pos (show (0 : Int) ≤ (i : Int) by omega), wrap_nat (show i < 1000000000000 by omega)]
      refine Tells.bind (ints_same (hs _)) ?_
      simp only [if_true]
      exact ih (i + 1) (by omega) (by omega)
  simp only [hyphenref10_Same.f, if_true, bne_self_eq_false]
  refine Tells.succ ?_
  simp only [hyphenref10_Same.j0, Bool.false_eq_true, if_false]
  exact l0 _ 0 rfl (Nat.zero_le _)
end
end Go.Proofs.YthpnipdoehbiaaaDoor.Pure
