/- Go functions as Lean functions, with contracts. -/
import Derived.Test.YthpnipdoehbiaaaDoorRSm
namespace Go.Proofs.YthpnipdoehbiaaaDoor.Pr
open Go.RowKit Go.Proofs.YthpnipdoehbiaaaDoorW.PrintWords Go.Proofs.YthpnipdoehbiaaaDoorW.PrintLast Go.Proofs.YthpnipdoehbiaaaDoorW.PrintMore
attribute [local go_sem] jF jD jQ jO jx jw jG jE
set_option linter.unusedVariables false
set_option linter.unusedSimpArgs false
def jo.l0 : Nat → List (List Int) → List Int → Int → Int → Int → Option (Bool)
 | 0, _, _, _, _, _ => none
 | k + 1, x0, x1, x2, x3, x9 => if 0 ≤ x2 then (if x2 < (x0.length : Int) then (if x9 < ((Z3 x0 x2).length : Int) then (if 0 ≤ x9 then (if 0 ≤ (rd (Z3 x0 x2) x9) then (if (rd (Z3 x0 x2) x9) < (x1.length : Int) then (if 0 ≤ x3 then (if x3 < (x0.length : Int) then (if x9 < ((Z3 x0 x3).length : Int) then (if 0 ≤ (rd (Z3 x0 x3) x9) then (if (rd (Z3 x0 x3) x9) < (x1.length : Int) then (if (rd x1 (rd (Z3 x0 x2) x9)) = (rd x1 (rd (Z3 x0 x3) x9)) then (jo.l0 k x0 x1 x2 x3 (wrap64 (x9 + 1))) else (some false)) else (none)) else (none)) else (none)) else (none)) else (none)) else (none)) else (none)) else (none)) else (some true)) else (none)) else (none)
def jo.f (k : Nat) (l0 : List (List Int)) (l1 : List Int) (a2 : Int) (a3 : Int) : Option (Bool) := jo.l0 k l0 l1 a2 a3 0
set_option maxHeartbeats 8000000 in
set_option maxRecDepth 100000 in
theorem jo.calls (k : Nat) (A0 : Option Addr) (c0 : Nat) (l0 : List (List Int)) (A1 : Option Addr) (c1 : Nat) (l1 : List Int) (a2 : Int) (a3 : Int) (r : Bool) (w : World) (hr0 : Kd.C (Kd.slice 3 (Kd.int .i64)) w A0 l0.length l0) (hc0 : l0.length ≤ c0) (hr1 : Kd.C (Kd.int .i64) w A1 l1.length l1) (hc1 : l1.length ≤ c1) (h : jo.f k l0 l1 a2 a3 = some r) :
  Calls Tryd.prog 46 #[.slice A0 l0.length c0, .slice A1 l1.length c1, .int .i64 a2, .int .i64 a3] w fun e w' => e = .returned (.bool r) ∧ jJ w w' := by
 have HR0 := Z0.mk hr0
 have HC0 := Z0.mk hc0
 clear hr0 hc0
 have HR1 := Z0.mk hr1
 have HC1 := Z0.mk hc1
 clear hr1 hc1
 have H : (jo.l0 k l0 l1 a2 a3 0) = some r := h
 clear h
 have H' := Z0.mk H
 clear H
 go_enter Tryd.func46, Tryd.ntmps46
 go_wp2
 repeat (go_quiet (fail); try go_wp2)
 go_loopg [9] k (fun kq v9 w' => ∃ (x9_1 : Int), v9 = .int .i64 x9_1 ∧ Z0 (jo.l0 kq l0 l1 a2 a3 x9_1 = some r) ∧ Z0 (kq ≤ k) ∧ jJ w w')
 case atStart => exact ⟨(0), (by rfl), H', ⟨Nat.le_refl _⟩, by repeat (exact jJ.refl _)⟩
 case round =>
  clear H'
  obtain ⟨x9_1, rfl, HA, HK1, ⟨m1, rfl⟩⟩ := hrel
  cases gk with
  | zero => exact absurd HA.out (by simp [jo.l0])
  | succ k1 =>
   have H := HA.out
   clear HA
   simp only [jo.l0] at H
   by_cases c5 : 0 ≤ a2
   rotate_left
   ·rw [if_neg c5] at H
    exact absurd H (by simp)
   rw [if_pos c5] at H
   have c5b0 : decide (0 ≤ a2) = true := decide_eq_true c5
   clear c5
   by_cases c6 : a2 < (l0.length : Int)
   rotate_left
   ·rw [if_neg c6] at H
    exact absurd H (by simp)
   rw [if_pos c6] at H
   have c6b0 : decide (a2 < (l0.length : Int)) = true := decide_eq_true c6
   clear c6
   by_cases c7 : x9_1 < ((Z3 l0 a2).length : Int)
   rotate_left
   ·rw [if_neg c7] at H
    have c7b0 : decide (x9_1 < ((Z3 l0 a2).length : Int)) = false := decide_eq_false c7
    clear c7
    obtain rfl := Option.some.inj H
    have z2 : 0 ≤ (a2 : Int) := of_decide_eq_true (by (with_reducible assumption))
    have z3 : a2 < (l0.length : Int) := of_decide_eq_true (by (with_reducible assumption))
    obtain ⟨z8, zw, zx, zp, z9, z0, z1⟩ := jZ HR0.out a2 z2 z3
    cases zp
    have zq := Z0.mk z1
    have zr := Z0.mk z0
    clear z1 z0
    replace z2 := eq_true z2
    replace z3 := eq_true z3
    go_wp2
    repeat (go_quiet (fail); try go_wp2)
    go_ret
    exact ⟨by rfl, by repeat (first | exact jJ.refl _ | apply jJ.step)⟩
   rw [if_pos c7] at H
   have c7b0 : decide (x9_1 < ((Z3 l0 a2).length : Int)) = true := decide_eq_true c7
   clear c7
   by_cases c8 : 0 ≤ x9_1
   rotate_left
   ·rw [if_neg c8] at H
    exact absurd H (by simp)
   rw [if_pos c8] at H
   have c8b0 : decide (0 ≤ x9_1) = true := decide_eq_true c8
   clear c8
   by_cases c9 : 0 ≤ (rd (Z3 l0 a2) x9_1)
   rotate_left
   ·rw [if_neg c9] at H
    exact absurd H (by simp)
   rw [if_pos c9] at H
   have c9b0 : decide (0 ≤ (rd (Z3 l0 a2) x9_1)) = true := decide_eq_true c9
   clear c9
   by_cases c10 : (rd (Z3 l0 a2) x9_1) < (l1.length : Int)
   rotate_left
   ·rw [if_neg c10] at H
    exact absurd H (by simp)
   rw [if_pos c10] at H
   have c10b0 : decide ((rd (Z3 l0 a2) x9_1) < (l1.length : Int)) = true := decide_eq_true c10
   clear c10
   by_cases c11 : 0 ≤ a3
   rotate_left
   ·rw [if_neg c11] at H
    exact absurd H (by simp)
   rw [if_pos c11] at H
   have c11b0 : decide (0 ≤ a3) = true := decide_eq_true c11
   clear c11
   by_cases c12 : a3 < (l0.length : Int)
   rotate_left
   ·rw [if_neg c12] at H
    exact absurd H (by simp)
   rw [if_pos c12] at H
   have c12b0 : decide (a3 < (l0.length : Int)) = true := decide_eq_true c12
   clear c12
   by_cases c13 : x9_1 < ((Z3 l0 a3).length : Int)
   rotate_left
   ·rw [if_neg c13] at H
    exact absurd H (by simp)
   rw [if_pos c13] at H
   have c13b0 : decide (x9_1 < ((Z3 l0 a3).length : Int)) = true := decide_eq_true c13
   clear c13
   by_cases c14 : 0 ≤ (rd (Z3 l0 a3) x9_1)
   rotate_left
   ·rw [if_neg c14] at H
    exact absurd H (by simp)
   rw [if_pos c14] at H
   have c14b0 : decide (0 ≤ (rd (Z3 l0 a3) x9_1)) = true := decide_eq_true c14
   clear c14
   by_cases c15 : (rd (Z3 l0 a3) x9_1) < (l1.length : Int)
   rotate_left
   ·rw [if_neg c15] at H
    exact absurd H (by simp)
   rw [if_pos c15] at H
   have c15b0 : decide ((rd (Z3 l0 a3) x9_1) < (l1.length : Int)) = true := decide_eq_true c15
   clear c15
   by_cases c16 : (rd l1 (rd (Z3 l0 a2) x9_1)) = (rd l1 (rd (Z3 l0 a3) x9_1))
   rotate_left
   ·rw [if_neg c16] at H
    have c16b0 : ((rd l1 (rd (Z3 l0 a2) x9_1)) == (rd l1 (rd (Z3 l0 a3) x9_1))) = false := beq_eq_false_iff_ne.mpr c16
    have c16b1 : ((rd l1 (rd (Z3 l0 a2) x9_1)) != (rd l1 (rd (Z3 l0 a3) x9_1))) = true := bne_iff_ne.mpr c16
    obtain rfl := Option.some.inj H
    have z2 : 0 ≤ (a2 : Int) := of_decide_eq_true (by (with_reducible assumption))
    have z3 : a2 < (l0.length : Int) := of_decide_eq_true (by (with_reducible assumption))
    obtain ⟨z8, zw, zx, zp, z9, z0, z1⟩ := jZ HR0.out a2 z2 z3
    cases zp
    have zq := Z0.mk z1
    have zr := Z0.mk z0
    clear z1 z0
    replace z2 := eq_true z2
    replace z3 := eq_true z3
    have za : 0 ≤ (a2 : Int) := of_decide_eq_true (by (with_reducible assumption))
    have zb : a2 < (l0.length : Int) := of_decide_eq_true (by (with_reducible assumption))
    obtain ⟨zs, zL, zM, zy, zm, z4, z5⟩ := jZ HR0.out a2 za zb
    obtain rfl : z8 = zs := (by injection zy)
    have zn := Z0.mk z5
    have zE := Z0.mk z4
    clear z5 z4
    replace za := eq_true za
    replace zb := eq_true zb
    have ea_ := Option.some.inj (z9.symm.trans zm)
    injection ea_ with ea_ en_ ec_
    subst ea_
    subst ec_
    clear en_
    have zc : 0 ≤ (x9_1 : Int) := of_decide_eq_true (by (with_reducible assumption))
    have zd : x9_1 < ((Z3 l0 a2).length : Int) := of_decide_eq_true (by (with_reducible assumption))
    obtain ⟨zP, zz, zF⟩ := Kd.ZD zn.out x9_1 zc zd
    cases zz
    replace zc := eq_true zc
    replace zd := eq_true zd
    have ze : 0 ≤ ((rd (Z3 l0 a2) x9_1) : Int) := of_decide_eq_true (by (with_reducible assumption))
    have zf : (rd (Z3 l0 a2) x9_1) < (l1.length : Int) := of_decide_eq_true (by (with_reducible assumption))
    obtain ⟨zt, zA, zG⟩ := Kd.ZD HR1.out (rd (Z3 l0 a2) x9_1) ze zf
    cases zA
    replace ze := eq_true ze
    replace zf := eq_true zf
    have zg : 0 ≤ (a3 : Int) := of_decide_eq_true (by (with_reducible assumption))
    have zh : a3 < (l0.length : Int) := of_decide_eq_true (by (with_reducible assumption))
    obtain ⟨zu, zN, zO, zB, zH, z6, z7⟩ := jZ HR0.out a3 zg zh
    obtain rfl : z8 = zu := (by injection zB)
    have zo := Z0.mk z7
    have zI := Z0.mk z6
    clear z7 z6
    replace zg := eq_true zg
    replace zh := eq_true zh
    have zi : 0 ≤ (x9_1 : Int) := of_decide_eq_true (by (with_reducible assumption))
    have zj : x9_1 < ((Z3 l0 a3).length : Int) := of_decide_eq_true (by (with_reducible assumption))
    obtain ⟨zQ, zC, zJ⟩ := Kd.ZD zo.out x9_1 zi zj
    cases zC
    replace zi := eq_true zi
    replace zj := eq_true zj
    have zk : 0 ≤ ((rd (Z3 l0 a3) x9_1) : Int) := of_decide_eq_true (by (with_reducible assumption))
    have zl : (rd (Z3 l0 a3) x9_1) < (l1.length : Int) := of_decide_eq_true (by (with_reducible assumption))
    obtain ⟨zv, zD, zK⟩ := Kd.ZD HR1.out (rd (Z3 l0 a3) x9_1) zk zl
    obtain rfl : zt = zv := (by injection zD)
    replace zk := eq_true zk
    replace zl := eq_true zl
    go_wp2
    repeat (go_quiet (fail); try go_wp2)
    go_ret
    exact ⟨by rfl, by repeat (first | exact jJ.refl _ | apply jJ.step)⟩
   rw [if_pos c16] at H
   have c16b0 : ((rd l1 (rd (Z3 l0 a2) x9_1)) == (rd l1 (rd (Z3 l0 a3) x9_1))) = true := beq_iff_eq.mpr c16
   have c16b1 : ((rd l1 (rd (Z3 l0 a2) x9_1)) != (rd l1 (rd (Z3 l0 a3) x9_1))) = false := bne_eq_false_iff_eq.mpr c16
   clear c16
   have H' := Z0.mk H
   clear H
   have z2 : 0 ≤ (a2 : Int) := of_decide_eq_true (by (with_reducible assumption))
   have z3 : a2 < (l0.length : Int) := of_decide_eq_true (by (with_reducible assumption))
   obtain ⟨z8, zw, zx, zp, z9, z0, z1⟩ := jZ HR0.out a2 z2 z3
   cases zp
   have zq := Z0.mk z1
   have zr := Z0.mk z0
   clear z1 z0
   replace z2 := eq_true z2
   replace z3 := eq_true z3
   have za : 0 ≤ (a2 : Int) := of_decide_eq_true (by (with_reducible assumption))
   have zb : a2 < (l0.length : Int) := of_decide_eq_true (by (with_reducible assumption))
   obtain ⟨zs, zL, zM, zy, zm, z4, z5⟩ := jZ HR0.out a2 za zb
   obtain rfl : z8 = zs := (by injection zy)
   have zn := Z0.mk z5
   have zE := Z0.mk z4
   clear z5 z4
   replace za := eq_true za
   replace zb := eq_true zb
   have ea_ := Option.some.inj (z9.symm.trans zm)
   injection ea_ with ea_ en_ ec_
   subst ea_
   subst ec_
   clear en_
   have zc : 0 ≤ (x9_1 : Int) := of_decide_eq_true (by (with_reducible assumption))
   have zd : x9_1 < ((Z3 l0 a2).length : Int) := of_decide_eq_true (by (with_reducible assumption))
   obtain ⟨zP, zz, zF⟩ := Kd.ZD zn.out x9_1 zc zd
   cases zz
   replace zc := eq_true zc
   replace zd := eq_true zd
   have ze : 0 ≤ ((rd (Z3 l0 a2) x9_1) : Int) := of_decide_eq_true (by (with_reducible assumption))
   have zf : (rd (Z3 l0 a2) x9_1) < (l1.length : Int) := of_decide_eq_true (by (with_reducible assumption))
   obtain ⟨zt, zA, zG⟩ := Kd.ZD HR1.out (rd (Z3 l0 a2) x9_1) ze zf
   cases zA
   replace ze := eq_true ze
   replace zf := eq_true zf
   have zg : 0 ≤ (a3 : Int) := of_decide_eq_true (by (with_reducible assumption))
   have zh : a3 < (l0.length : Int) := of_decide_eq_true (by (with_reducible assumption))
   obtain ⟨zu, zN, zO, zB, zH, z6, z7⟩ := jZ HR0.out a3 zg zh
   obtain rfl : z8 = zu := (by injection zB)
   have zo := Z0.mk z7
   have zI := Z0.mk z6
   clear z7 z6
   replace zg := eq_true zg
   replace zh := eq_true zh
   have zi : 0 ≤ (x9_1 : Int) := of_decide_eq_true (by (with_reducible assumption))
   have zj : x9_1 < ((Z3 l0 a3).length : Int) := of_decide_eq_true (by (with_reducible assumption))
   obtain ⟨zQ, zC, zJ⟩ := Kd.ZD zo.out x9_1 zi zj
   cases zC
   replace zi := eq_true zi
   replace zj := eq_true zj
   have zk : 0 ≤ ((rd (Z3 l0 a3) x9_1) : Int) := of_decide_eq_true (by (with_reducible assumption))
   have zl : (rd (Z3 l0 a3) x9_1) < (l1.length : Int) := of_decide_eq_true (by (with_reducible assumption))
   obtain ⟨zv, zD, zK⟩ := Kd.ZD HR1.out (rd (Z3 l0 a3) x9_1) zk zl
   obtain rfl : zt = zv := (by injection zD)
   replace zk := eq_true zk
   replace zl := eq_true zl
   go_wp2
   repeat (go_quiet (fail); try go_wp2)
   go_roundg k1
   case measure => have := HK1.out; omega
   case rel => exact ⟨(wrap64 (x9_1 + 1)), (by rfl), H', ⟨by have := HK1.out; omega⟩, by repeat (first | exact jJ.refl _ | apply jJ.step)⟩
end Go.Proofs.YthpnipdoehbiaaaDoor.Pr
