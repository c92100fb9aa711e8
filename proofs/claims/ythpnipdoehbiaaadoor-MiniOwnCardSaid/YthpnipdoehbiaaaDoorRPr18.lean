/- Go functions as Lean functions, with contracts. -/
import Derived.Test.YthpnipdoehbiaaaDoorRSm
import Derived.Test.YthpnipdoehbiaaaDoorRPr1
namespace Go.Proofs.YthpnipdoehbiaaaDoor.Pr
open Go.RowKit Go.Proofs.YthpnipdoehbiaaaDoorW.PrintWords Go.Proofs.YthpnipdoehbiaaaDoorW.PrintLast Go.Proofs.YthpnipdoehbiaaaDoorW.PrintMore
attribute [local go_sem] jF jD jQ jO jx jw jG jE
set_option linter.unusedVariables false
set_option linter.unusedSimpArgs false
attribute [local go_sem high] eqA53
def ju.l0 : Nat → List (S53) → List (S53) → Int → Option (Bool)
 | 0, _, _, _ => none
 | k + 1, x0, x1, x5 => if x5 < (x0.length : Int) then (if 0 ≤ x5 then (if x5 < (x1.length : Int) then (if (!(((ZZ x0 x5).f0) == ((ZZ x1 x5).f0)) || (!(((ZZ x0 x5).f1) == ((ZZ x1 x5).f1)) || (!(((ZZ x0 x5).f2) == ((ZZ x1 x5).f2))))) = true then (some false) else (ju.l0 k x0 x1 (wrap64 (x5 + 1)))) else (none)) else (none)) else (some true)
def ju.f (k : Nat) (l0 : List (S53)) (l1 : List (S53)) : Option (Bool) := if (l0.length : Int) = (l1.length : Int) then (ju.l0 k l0 l1 0) else (some false)
set_option maxHeartbeats 8000000 in
set_option maxRecDepth 100000 in
theorem ju.calls (k : Nat) (A0 : Option Addr) (c0 : Nat) (l0 : List (S53)) (A1 : Option Addr) (c1 : Nat) (l1 : List (S53)) (r : Bool) (w : World) (hr0 : Kd.C k53 w A0 l0.length l0) (hc0 : l0.length ≤ c0) (hr1 : Kd.C k53 w A1 l1.length l1) (hc1 : l1.length ≤ c1) (h : ju.f k l0 l1 = some r) :
  Calls Tryd.prog 26 #[.slice A0 l0.length c0, .slice A1 l1.length c1] w fun e w' => e = .returned (.bool r) ∧ jJ w w' := by
 have hu53 := Tryd.underlying53
 have HR0 := Z0.mk hr0
 have HC0 := Z0.mk hc0
 clear hr0 hc0
 have HR1 := Z0.mk hr1
 have HC1 := Z0.mk hc1
 clear hr1 hc1
 have H : (if (l0.length : Int) = (l1.length : Int) then (ju.l0 k l0 l1 0) else (some false)) = some r := h
 clear h
 by_cases c3 : (l0.length : Int) = (l1.length : Int)
 rotate_left
 ·rw [if_neg c3] at H
  have c3b0 : ((l0.length : Int) == (l1.length : Int)) = false := beq_eq_false_iff_ne.mpr c3
  have c3b1 : ((l0.length : Int) != (l1.length : Int)) = true := bne_iff_ne.mpr c3
  have c3b2 : (l0.length == l1.length) = false := by (simp at c3 ⊢; omega)
  obtain rfl := Option.some.inj H
  go_enter Tryd.func26, Tryd.ntmps26
  go_wp2
  repeat (go_quiet (fail); try go_wp2)
  go_ret
  exact ⟨by rfl, by repeat (exact jJ.refl _)⟩
 rw [if_pos c3] at H
 have c3b0 : ((l0.length : Int) == (l1.length : Int)) = true := beq_iff_eq.mpr c3
 have c3b1 : ((l0.length : Int) != (l1.length : Int)) = false := bne_eq_false_iff_eq.mpr c3
 have c3b2 : (l0.length == l1.length) = true := by (simp at c3 ⊢; omega)
 clear c3
 have H' := Z0.mk H
 clear H
 go_enter Tryd.func26, Tryd.ntmps26
 go_wp2
 repeat (go_quiet (fail); try go_wp2)
 go_loopg [5] k (fun kq v5 w' => ∃ (x5_1 : Int), v5 = .int .i64 x5_1 ∧ Z0 (ju.l0 kq l0 l1 x5_1 = some r) ∧ Z0 (kq ≤ k) ∧ jJ w w')
 case atStart => exact ⟨(0), (by rfl), H', ⟨Nat.le_refl _⟩, by repeat (exact jJ.refl _)⟩
 case round =>
  clear H'
  clear c3b0 c3b1 c3b2
  obtain ⟨x5_1, rfl, HA, HK1, ⟨m1, rfl⟩⟩ := hrel
  cases gk with
  | zero => exact absurd HA.out (by simp [ju.l0])
  | succ k1 =>
   have H := HA.out
   clear HA
   simp only [ju.l0] at H
   by_cases c4 : x5_1 < (l0.length : Int)
   rotate_left
   ·rw [if_neg c4] at H
    have c4b0 : decide (x5_1 < (l0.length : Int)) = false := decide_eq_false c4
    clear c4
    obtain rfl := Option.some.inj H
    go_wp2
    repeat (go_quiet (fail); try go_wp2)
    go_ret
    exact ⟨by rfl, by repeat (first | exact jJ.refl _ | apply jJ.step)⟩
   rw [if_pos c4] at H
   have c4b0 : decide (x5_1 < (l0.length : Int)) = true := decide_eq_true c4
   clear c4
   by_cases c5 : 0 ≤ x5_1
   rotate_left
   ·rw [if_neg c5] at H
    exact absurd H (by simp)
   rw [if_pos c5] at H
   have c5b0 : decide (0 ≤ x5_1) = true := decide_eq_true c5
   clear c5
   by_cases c6 : x5_1 < (l1.length : Int)
   rotate_left
   ·rw [if_neg c6] at H
    exact absurd H (by simp)
   rw [if_pos c6] at H
   have c6b0 : decide (x5_1 < (l1.length : Int)) = true := decide_eq_true c6
   clear c6
   by_cases c7 : (!(((ZZ l0 x5_1).f0) == ((ZZ l1 x5_1).f0)) || (!(((ZZ l0 x5_1).f1) == ((ZZ l1 x5_1).f1)) || (!(((ZZ l0 x5_1).f2) == ((ZZ l1 x5_1).f2))))) = true
   rotate_left
   ·rw [if_neg c7] at H
    have c7b0 : (!(((ZZ l0 x5_1).f0) == ((ZZ l1 x5_1).f0)) || (!(((ZZ l0 x5_1).f1) == ((ZZ l1 x5_1).f1)) || (!(((ZZ l0 x5_1).f2) == ((ZZ l1 x5_1).f2))))) = false := by simpa using c7
    clear c7
    have H' := Z0.mk H
    clear H
    have z0 : 0 ≤ (x5_1 : Int) := of_decide_eq_true (by (with_reducible assumption))
    have z1 : x5_1 < (l0.length : Int) := of_decide_eq_true (by (with_reducible assumption))
    obtain ⟨zc, z4, z6, z7, z8⟩ := zcm HR0.out x5_1 z0 z1
    cases z4
    replace z0 := eq_true z0
    replace z1 := eq_true z1
    have z2 : 0 ≤ (x5_1 : Int) := of_decide_eq_true (by (with_reducible assumption))
    have z3 : x5_1 < (l1.length : Int) := of_decide_eq_true (by (with_reducible assumption))
    obtain ⟨zd, z5, z9, za, zb⟩ := zcm HR1.out x5_1 z2 z3
    cases z5
    replace z2 := eq_true z2
    replace z3 := eq_true z3
    go_wp2
    repeat (go_quiet (fail); try go_wp2)
    go_roundg k1
    case measure => have := HK1.out; omega
    case rel => exact ⟨(wrap64 (x5_1 + 1)), (by rfl), H', ⟨by have := HK1.out; omega⟩, by repeat (first | exact jJ.refl _ | apply jJ.step)⟩
   rw [if_pos c7] at H
   have c7b0 : (!(((ZZ l0 x5_1).f0) == ((ZZ l1 x5_1).f0)) || (!(((ZZ l0 x5_1).f1) == ((ZZ l1 x5_1).f1)) || (!(((ZZ l0 x5_1).f2) == ((ZZ l1 x5_1).f2))))) = true := c7
   clear c7
   obtain rfl := Option.some.inj H
   have z0 : 0 ≤ (x5_1 : Int) := of_decide_eq_true (by (with_reducible assumption))
   have z1 : x5_1 < (l0.length : Int) := of_decide_eq_true (by (with_reducible assumption))
   obtain ⟨zc, z4, z6, z7, z8⟩ := zcm HR0.out x5_1 z0 z1
   cases z4
   replace z0 := eq_true z0
   replace z1 := eq_true z1
   have z2 : 0 ≤ (x5_1 : Int) := of_decide_eq_true (by (with_reducible assumption))
   have z3 : x5_1 < (l1.length : Int) := of_decide_eq_true (by (with_reducible assumption))
   obtain ⟨zd, z5, z9, za, zb⟩ := zcm HR1.out x5_1 z2 z3
   cases z5
   replace z2 := eq_true z2
   replace z3 := eq_true z3
   go_wp2
   repeat (go_quiet (fail); try go_wp2)
   go_ret
   exact ⟨by rfl, by repeat (first | exact jJ.refl _ | apply jJ.step)⟩
end Go.Proofs.YthpnipdoehbiaaaDoor.Pr
