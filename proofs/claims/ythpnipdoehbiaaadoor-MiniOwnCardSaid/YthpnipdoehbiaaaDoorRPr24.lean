/- Go functions as Lean functions, with contracts. -/
import Derived.Test.YthpnipdoehbiaaaDoorRSm
namespace Go.Proofs.YthpnipdoehbiaaaDoor.Pr
open Go.RowKit Go.Proofs.YthpnipdoehbiaaaDoorW.PrintWords Go.Proofs.YthpnipdoehbiaaaDoorW.PrintLast Go.Proofs.YthpnipdoehbiaaaDoorW.PrintMore
attribute [local go_sem] jF jD jQ jO jx jw jG jE
set_option linter.unusedVariables false
set_option linter.unusedSimpArgs false
mutual
def Jy.l0 : Nat → List (List Int) → Int → Int → Int → Option (Bool)
 | 0, _, _, _, _ => none
 | k + 1, x0, x1, x2, x7 => if x7 < (x0.length : Int) then (if 0 ≤ x7 then (if ((Z3 x0 x7).length : Int) = x2 then (Jy.l1 k x0 x1 x2 x7 0) else (some false)) else (none)) else (if (x0.length : Int) > 0 then (some (x1 == (x0.length : Int))) else (some false))
def Jy.l1 : Nat → List (List Int) → Int → Int → Int → Int → Option (Bool)
 | 0, _, _, _, _, _ => none
 | k + 1, x0, x1, x2, x7, x8 => if x8 < x2 then (if 0 ≤ x7 then (if x7 < (x0.length : Int) then (if 0 ≤ x8 then (if x8 < ((Z3 x0 x7).length : Int) then (if (rd (Z3 x0 x7) x8) < 0 then (some false) else (if (rd (Z3 x0 x7) x8) ≥ (x0.length : Int) then (some false) else (Jy.l1 k x0 x1 x2 x7 (wrap64 (x8 + 1))))) else (none)) else (none)) else (none)) else (none)) else (Jy.l0 k x0 x1 x2 (wrap64 (x7 + 1)))
end
def Jy.f (k : Nat) (l0 : List (List Int)) (a1 : Int) (a2 : Int) : Option (Bool) := Jy.l0 k l0 a1 a2 0
end Go.Proofs.YthpnipdoehbiaaaDoor.Pr
