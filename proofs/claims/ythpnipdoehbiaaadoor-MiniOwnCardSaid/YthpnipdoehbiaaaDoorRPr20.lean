/- Go functions as Lean functions, with contracts. -/
import Derived.Test.YthpnipdoehbiaaaDoorRSm
namespace Go.Proofs.YthpnipdoehbiaaaDoor.Pr
open Go.RowKit Go.Proofs.YthpnipdoehbiaaaDoorW.PrintWords Go.Proofs.YthpnipdoehbiaaaDoorW.PrintLast Go.Proofs.YthpnipdoehbiaaaDoorW.PrintMore
attribute [local go_sem] jF jD jQ jO jx jw jG jE
set_option linter.unusedVariables false
set_option linter.unusedSimpArgs false
mutual
def Zj.j0 : Nat → Bool → List (List Int) → List Int → List (List Int) → List Int → Option (Bool)
 | 0, _, _, _, _, _ => none
 | k + 1, x23, z6, z9, z7, za => if x23 = true then (some false) else (Zj.l0 k 0 z6 z9 z7 za)
def Zj.l0 : Nat → Int → List (List Int) → List Int → List (List Int) → List Int → Option (Bool)
 | 0, _, _, _, _, _ => none
 | k + 1, x5, z6, z9, z7, za => if x5 < (z6.length : Int) then (if 0 ≤ x5 then (if x5 < (z7.length : Int) then (if ((Z3 z6 x5).length : Int) = ((Z3 z7 x5).length : Int) then (Zj.l1 k x5 0 z6 z9 z7 za) else (some false)) else (none)) else (none)) else (Zj.l2 k 0 z6 z9 z7 za)
def Zj.l1 : Nat → Int → Int → List (List Int) → List Int → List (List Int) → List Int → Option (Bool)
 | 0, _, _, _, _, _, _ => none
 | k + 1, x5, x6, z6, z9, z7, za => if 0 ≤ x5 then (if x5 < (z6.length : Int) then (if x6 < ((Z3 z6 x5).length : Int) then (if 0 ≤ x6 then (if x5 < (z7.length : Int) then (if x6 < ((Z3 z7 x5).length : Int) then (if (rd (Z3 z6 x5) x6) = (rd (Z3 z7 x5) x6) then (Zj.l1 k x5 (wrap64 (x6 + 1)) z6 z9 z7 za) else (some false)) else (none)) else (none)) else (none)) else (Zj.l0 k (wrap64 (x5 + 1)) z6 z9 z7 za)) else (none)) else (none)
def Zj.l2 : Nat → Int → List (List Int) → List Int → List (List Int) → List Int → Option (Bool)
 | 0, _, _, _, _, _ => none
 | k + 1, x7, z6, z9, z7, za => if x7 < (z9.length : Int) then (if 0 ≤ x7 then (if x7 < (za.length : Int) then (if (rd z9 x7) = (rd za x7) then (Zj.l2 k (wrap64 (x7 + 1)) z6 z9 z7 za) else (some false)) else (none)) else (none)) else (some true)
end
def Zj.f (k : Nat) (l0_0 : List (List Int)) (l0_1 : List Int) (l1_0 : List (List Int)) (l1_1 : List Int) : Option (Bool) := if (l0_0.length : Int) = (l1_0.length : Int) then (Zj.j0 k ((l0_1.length : Int) != (l1_1.length : Int)) l0_0 l0_1 l1_0 l1_1) else (Zj.j0 k true l0_0 l0_1 l1_0 l1_1)
set_option maxHeartbeats 8000000 in
set_option maxRecDepth 100000 in
theorem Zj.calls (k : Nat) (A0_0 : Option Addr) (c0_0 : Nat) (l0_0 : List (List Int)) (A0_1 : Option Addr) (c0_1 : Nat) (l0_1 : List Int) (A1_0 : Option Addr) (c1_0 : Nat) (l1_0 : List (List Int)) (A1_1 : Option Addr) (c1_1 : Nat) (l1_1 : List Int) (r : Bool) (w : World) (hr0_0 : Kd.C (Kd.slice 3 (Kd.int .i64)) w A0_0 l0_0.length l0_0) (hc0_0 : l0_0.length ≤ c0_0) (hr0_1 : Kd.C (Kd.int .i64) w A0_1 l0_1.length l0_1) (hc0_1 : l0_1.length ≤ c0_1) (hr1_0 : Kd.C (Kd.slice 3 (Kd.int .i64)) w A1_0 l1_0.length l1_0) (hc1_0 : l1_0.length ≤ c1_0) (hr1_1 : Kd.C (Kd.int .i64) w A1_1 l1_1.length l1_1) (hc1_1 : l1_1.length ≤ c1_1) (h : Zj.f k l0_0 l0_1 l1_0 l1_1 = some r) :
  Calls Tryd.prog 20 #[.agg #[.slice A0_0 l0_0.length c0_0, .slice A0_1 l0_1.length c0_1], .agg #[.slice A1_0 l1_0.length c1_0, .slice A1_1 l1_1.length c1_1]] w fun e w' => e = .returned (.bool r) ∧ Below w.heap.size w w' := by
 have hu26 := Tryd.underlying26
 have HR0_0 := Z0.mk hr0_0
 have HC0_0 := Z0.mk hc0_0
 clear hr0_0 hc0_0
 have HR0_1 := Z0.mk hr0_1
 have HC0_1 := Z0.mk hc0_1
 clear hr0_1 hc0_1
 have HR1_0 := Z0.mk hr1_0
 have HC1_0 := Z0.mk hc1_0
 clear hr1_0 hc1_0
 have HR1_1 := Z0.mk hr1_1
 have HC1_1 := Z0.mk hc1_1
 clear hr1_1 hc1_1
 have HB := Z0.mk (Below.refl w.heap.size w)
 have H : (if (l0_0.length : Int) = (l1_0.length : Int) then (Zj.j0 k ((l0_1.length : Int) != (l1_1.length : Int)) l0_0 l0_1 l1_0 l1_1) else (Zj.j0 k true l0_0 l0_1 l1_0 l1_1)) = some r := h
 clear h
 have HC3 := Z0.mk H
 clear H
 go_enter Tryd.func20, Tryd.ntmps20
 go_upto_region 1 with (first | ((with_reducible refine ZI (N := 2) rfl ?_); (try (refine jh (by rfl) ?_; dsimp only)); refine jk ?hg (N := 2) ?hd (cs := #[.slice A0_0 l0_0.length c0_0, .slice A0_1 l0_1.length c0_1]) (t := 26) ?hr ?_; (case hd => rfl); (case hg => rfl); (case hr => (go_simp; done)); intro z2 hg w4 hbox hb; have n0_ := Z0.mk (Z9 HB.out hb); have n1_ := Z0.mk (hbox); have n2_ := Z0.mk ((by rw [hg]; exact (Z4 HB.out) : w.heap.size ≤ z2)); have n3_ := Z0.mk ((by rw [hg]; exact (Z4 HB.out) : w.heap.size ≤ z2)); clear HB; have HB := n0_; have z0 := n1_; have yn := n2_; have yo := n3_; clear n0_ n1_ n2_ n3_; clear hb hbox hg) | ((with_reducible refine ZI (N := 3) rfl ?_); (try (refine jh (by rfl) ?_; dsimp only)); refine jk ?hg (N := 3) ?hd (cs := #[.slice A1_0 l1_0.length c1_0, .slice A1_1 l1_1.length c1_1]) (t := 26) ?hr ?_; (case hd => rfl); (case hg => rfl); (case hr => (go_simp; done)); intro z3 hg w5 hbox hb; have n0_ := Z0.mk (Z5 (g := z2) (o := .cells #[.slice A0_0 l0_0.length c0_0, .slice A0_1 l0_1.length c0_1] 26 (0, 0)) (z0.out) hb); have n1_ := Z0.mk (Z9 HB.out hb); have n2_ := Z0.mk (hbox); have n3_ := Z0.mk ((by rw [hg]; exact (Z4 HB.out) : w.heap.size ≤ z3)); have n4_ := Z0.mk ((by rw [hg]; exact (Z4 HB.out) : w.heap.size ≤ z3)); have n5_ := Z0.mk ((by rw [hg]; exact Nat.ne_of_lt (ZF (g := z2) (o := .cells #[.slice A0_0 l0_0.length c0_0, .slice A0_1 l0_1.length c0_1] 26 (0, 0)) (z0.out)) : z2 ≠ z3)); have n6_ := Z0.mk ((by rw [hg]; exact Nat.ne_of_gt (ZF (g := z2) (o := .cells #[.slice A0_0 l0_0.length c0_0, .slice A0_1 l0_1.length c0_1] 26 (0, 0)) (z0.out)) : z3 ≠ z2)); clear z0; clear HB; have z0 := n0_; have HB := n1_; have z1 := n2_; have yp := n3_; have yq := n4_; have z4 := n5_; have z5 := n6_; clear n0_ n1_ n2_ n3_ n4_ n5_ n6_; clear hb hbox hg))
 repeat (go_quiet (fail); go_upto_region 1 with (fail))
 (try simp only [n_])
 go_cut [23] (fun v23 wc => ∃ (kq : Nat) (x23_2 : Bool), v23 = .bool x23_2 ∧ Z0 (Zj.j0 kq x23_2 l0_0 l0_1 l1_0 l1_1 = some r) ∧ Z0 (kq ≤ k) ∧ Z0 (wc.heap[z2]? = some (.cells #[(.slice A0_0 l0_0.length c0_0), (.slice A0_1 l0_1.length c0_1)] 26 (0, 0))) ∧ Z0 (wc.heap[z3]? = some (.cells #[(.slice A1_0 l1_0.length c1_0), (.slice A1_1 l1_1.length c1_1)] 26 (0, 0))) ∧ Z0 (Below w.heap.size w wc))
 case first =>
  have H := HC3.out
  clear HC3
  by_cases c6 : (l0_0.length : Int) = (l1_0.length : Int)
  rotate_left
  ·rw [if_neg c6] at H
   have c6b0 : ((l0_0.length : Int) == (l1_0.length : Int)) = false := beq_eq_false_iff_ne.mpr c6
   have c6b1 : ((l0_0.length : Int) != (l1_0.length : Int)) = true := bne_iff_ne.mpr c6
   have c6b2 : (l0_0.length == l1_0.length) = false := by (simp at c6 ⊢; omega)
   (skip)
   have H' := Z0.mk H
   clear H
   have hnb10 := z4.out
   have hnc10 := z5.out
   have hcz11_0 : w5.cell? ⟨z2, 0, none⟩ = some (.slice A0_0 l0_0.length c0_0) := (Z1 z0.out 0).trans rfl
   have hcz11_1 : w5.cell? ⟨z2, 1, none⟩ = some (.slice A0_1 l0_1.length c0_1) := (Z1 z0.out 1).trans rfl
   have hfz11_0 := Z2 z0.out 0
   have hfz11_1 := Z2 z0.out 1
   have hcz12_0 : w5.cell? ⟨z3, 0, none⟩ = some (.slice A1_0 l1_0.length c1_0) := (Z1 z1.out 0).trans rfl
   have hcz12_1 : w5.cell? ⟨z3, 1, none⟩ = some (.slice A1_1 l1_1.length c1_1) := (Z1 z1.out 1).trans rfl
   have hfz12_0 := Z2 z1.out 0
   have hfz12_1 := Z2 z1.out 1
   go_wp2
   repeat (go_quiet (fail); try go_wp2)
   go_meet
   case rel => exact ⟨_, (true), (by rfl), H', ⟨by omega⟩, ⟨z0.out⟩, ⟨z1.out⟩, ⟨HB.out⟩⟩
  rw [if_pos c6] at H
  have c6b0 : ((l0_0.length : Int) == (l1_0.length : Int)) = true := beq_iff_eq.mpr c6
  have c6b1 : ((l0_0.length : Int) != (l1_0.length : Int)) = false := bne_eq_false_iff_eq.mpr c6
  have c6b2 : (l0_0.length == l1_0.length) = true := by (simp at c6 ⊢; omega)
  clear c6
  (skip)
  have H' := Z0.mk H
  clear H
  have hnb7 := z4.out
  have hnc7 := z5.out
  have hcz8_0 : w5.cell? ⟨z2, 0, none⟩ = some (.slice A0_0 l0_0.length c0_0) := (Z1 z0.out 0).trans rfl
  have hcz8_1 : w5.cell? ⟨z2, 1, none⟩ = some (.slice A0_1 l0_1.length c0_1) := (Z1 z0.out 1).trans rfl
  have hfz8_0 := Z2 z0.out 0
  have hfz8_1 := Z2 z0.out 1
  have hcz9_0 : w5.cell? ⟨z3, 0, none⟩ = some (.slice A1_0 l1_0.length c1_0) := (Z1 z1.out 0).trans rfl
  have hcz9_1 : w5.cell? ⟨z3, 1, none⟩ = some (.slice A1_1 l1_1.length c1_1) := (Z1 z1.out 1).trans rfl
  have hfz9_0 := Z2 z1.out 0
  have hfz9_1 := Z2 z1.out 1
  go_wp2
  repeat (go_quiet (fail); try go_wp2)
  go_meet
  case rel => exact ⟨_, (((l0_1.length : Int) != (l1_1.length : Int))), (by rfl), H', ⟨by omega⟩, ⟨z0.out⟩, ⟨z1.out⟩, ⟨HB.out⟩⟩
 case rest =>
  clear HC3
  obtain ⟨kq, x23_2, rfl, HA, HJ2, z0, z1, HB⟩ := hcut
  cases kq with
  | zero => exact absurd HA.out (by simp [Zj.j0])
  | succ kj2 =>
   have H := HA.out
   clear HA
   simp only [Zj.j0] at H
   by_cases c13 : x23_2 = true
   ·subst c13
    have H1 : (some false) = some r := by rw [if_pos rfl] at H; exact H
    clear H
    have H := H1
    clear H1
    obtain rfl := Option.some.inj H
    go_wp2
    repeat (go_quiet (fail); try go_wp2)
    go_ret
    exact ⟨by rfl, HB.out⟩
   ·replace c13 := Bool.eq_false_iff.mpr c13
    subst c13
    have H1 : (Zj.l0 kj2 0 l0_0 l0_1 l1_0 l1_1) = some r := by rw [if_neg (show ¬ (false = true) by decide)] at H; exact H
    clear H
    have H := H1
    clear H1
    have H' := Z0.mk H
    clear H
    go_wp2
    repeat (go_quiet (fail); try go_wp2)
    go_loopg [5] kj2 (fun kq v5 w' => ∃ (x5_2 : Int), v5 = .int .i64 x5_2 ∧ Z0 (Zj.l0 kq x5_2 l0_0 l0_1 l1_0 l1_1 = some r) ∧ Z0 (kq ≤ kj2) ∧ Z0 (w'.heap[z2]? = some (.cells #[(.slice A0_0 l0_0.length c0_0), (.slice A0_1 l0_1.length c0_1)] 26 (0, 0))) ∧ Z0 (w'.heap[z3]? = some (.cells #[(.slice A1_0 l1_0.length c1_0), (.slice A1_1 l1_1.length c1_1)] 26 (0, 0))) ∧ Z0 (Below w.heap.size w w'))
    case atStart => exact ⟨(0), (by rfl), H', ⟨Nat.le_refl _⟩, ⟨z0.out⟩, ⟨z1.out⟩, ⟨HB.out⟩⟩
    case round =>
     clear H'
     obtain ⟨x5_2, rfl, HA, HK2, z0, z1, HB⟩ := hrel
     cases gk with
     | zero => exact absurd HA.out (by simp [Zj.l0])
     | succ k2 =>
      have H := HA.out
      clear HA
      simp only [Zj.l0] at H
      by_cases c14 : x5_2 < (l0_0.length : Int)
      rotate_left
      ·rw [if_neg c14] at H
       have c14b0 : decide (x5_2 < (l0_0.length : Int)) = false := decide_eq_false c14
       clear c14
       have H' := Z0.mk H
       clear H
       have hnb39 := z4.out
       have hnc39 := z5.out
       have hcz40_0 : wr.cell? ⟨z2, 0, none⟩ = some (.slice A0_0 l0_0.length c0_0) := (Z1 z0.out 0).trans rfl
       have hcz40_1 : wr.cell? ⟨z2, 1, none⟩ = some (.slice A0_1 l0_1.length c0_1) := (Z1 z0.out 1).trans rfl
       have hfz40_0 := Z2 z0.out 0
       have hfz40_1 := Z2 z0.out 1
       go_wp2
       repeat (go_quiet (fail); try go_wp2)
       go_loopg [7] k2 (fun kq v7 w' => ∃ (x7_3 : Int), v7 = .int .i64 x7_3 ∧ Z0 (Zj.l2 kq x7_3 l0_0 l0_1 l1_0 l1_1 = some r) ∧ Z0 (kq ≤ k2) ∧ Z0 (w'.heap[z2]? = some (.cells #[(.slice A0_0 l0_0.length c0_0), (.slice A0_1 l0_1.length c0_1)] 26 (0, 0))) ∧ Z0 (w'.heap[z3]? = some (.cells #[(.slice A1_0 l1_0.length c1_0), (.slice A1_1 l1_1.length c1_1)] 26 (0, 0))) ∧ Z0 (Below w.heap.size w w'))
       case atStart => exact ⟨(0), (by rfl), H', ⟨Nat.le_refl _⟩, ⟨z0.out⟩, ⟨z1.out⟩, ⟨HB.out⟩⟩
       case round =>
        clear H'
        clear c14b0 hcz40_0 hcz40_1 hfz40_0 hfz40_1
        obtain ⟨x7_3, rfl, HA, HK3, z0, z1, HB⟩ := hrel
        cases gk with
        | zero => exact absurd HA.out (by simp [Zj.l2])
        | succ k3 =>
         have H := HA.out
         clear HA
         simp only [Zj.l2] at H
         by_cases c41 : x7_3 < (l0_1.length : Int)
         rotate_left
         ·rw [if_neg c41] at H
          have c41b0 : decide (x7_3 < (l0_1.length : Int)) = false := decide_eq_false c41
          clear c41
          obtain rfl := Option.some.inj H
          have hnb51 := z4.out
          have hnc51 := z5.out
          have hcz52_0 : wr.cell? ⟨z2, 0, none⟩ = some (.slice A0_0 l0_0.length c0_0) := (Z1 z0.out 0).trans rfl
          have hcz52_1 : wr.cell? ⟨z2, 1, none⟩ = some (.slice A0_1 l0_1.length c0_1) := (Z1 z0.out 1).trans rfl
          have hfz52_0 := Z2 z0.out 0
          have hfz52_1 := Z2 z0.out 1
          go_wp2
          repeat (go_quiet (fail); try go_wp2)
          go_ret
          exact ⟨by rfl, HB.out⟩
         rw [if_pos c41] at H
         have c41b0 : decide (x7_3 < (l0_1.length : Int)) = true := decide_eq_true c41
         clear c41
         by_cases c42 : 0 ≤ x7_3
         rotate_left
         ·rw [if_neg c42] at H
          exact absurd H (by simp)
         rw [if_pos c42] at H
         have c42b0 : decide (0 ≤ x7_3) = true := decide_eq_true c42
         clear c42
         by_cases c43 : x7_3 < (l1_1.length : Int)
         rotate_left
         ·rw [if_neg c43] at H
          exact absurd H (by simp)
         rw [if_pos c43] at H
         have c43b0 : decide (x7_3 < (l1_1.length : Int)) = true := decide_eq_true c43
         clear c43
         by_cases c44 : (rd l0_1 x7_3) = (rd l1_1 x7_3)
         rotate_left
         ·rw [if_neg c44] at H
          have c44b0 : ((rd l0_1 x7_3) == (rd l1_1 x7_3)) = false := beq_eq_false_iff_ne.mpr c44
          have c44b1 : ((rd l0_1 x7_3) != (rd l1_1 x7_3)) = true := bne_iff_ne.mpr c44
          obtain rfl := Option.some.inj H
          have hnb48 := z4.out
          have hnc48 := z5.out
          have hcz49_0 : wr.cell? ⟨z2, 0, none⟩ = some (.slice A0_0 l0_0.length c0_0) := (Z1 z0.out 0).trans rfl
          have hcz49_1 : wr.cell? ⟨z2, 1, none⟩ = some (.slice A0_1 l0_1.length c0_1) := (Z1 z0.out 1).trans rfl
          have hfz49_0 := Z2 z0.out 0
          have hfz49_1 := Z2 z0.out 1
          have zB : 0 ≤ (x7_3 : Int) := of_decide_eq_true (by (with_reducible assumption))
          have zC : x7_3 < (l0_1.length : Int) := of_decide_eq_true (by (with_reducible assumption))
          obtain ⟨yj, zX, zg⟩ := Kd.ZD HR0_1.out x7_3 zB zC
          cases zX
          replace zg := (HB.out.cell (World.block_lt_of_cell? w _ zg)).trans zg
          replace zB := eq_true zB
          replace zC := eq_true zC
          have hcz50_0 : wr.cell? ⟨z3, 0, none⟩ = some (.slice A1_0 l1_0.length c1_0) := (Z1 z1.out 0).trans rfl
          have hcz50_1 : wr.cell? ⟨z3, 1, none⟩ = some (.slice A1_1 l1_1.length c1_1) := (Z1 z1.out 1).trans rfl
          have hfz50_0 := Z2 z1.out 0
          have hfz50_1 := Z2 z1.out 1
          have zD : 0 ≤ (x7_3 : Int) := of_decide_eq_true (by (with_reducible assumption))
          have zE : x7_3 < (l1_1.length : Int) := of_decide_eq_true (by (with_reducible assumption))
          obtain ⟨yk, zY, zh⟩ := Kd.ZD HR1_1.out x7_3 zD zE
          cases zY
          replace zh := (HB.out.cell (World.block_lt_of_cell? w _ zh)).trans zh
          replace zD := eq_true zD
          replace zE := eq_true zE
          go_wp2
          repeat (go_quiet (fail); try go_wp2)
          go_ret
          exact ⟨by rfl, by repeat ((with_reducible first | exact HB.out | apply ZW))⟩
         rw [if_pos c44] at H
         have c44b0 : ((rd l0_1 x7_3) == (rd l1_1 x7_3)) = true := beq_iff_eq.mpr c44
         have c44b1 : ((rd l0_1 x7_3) != (rd l1_1 x7_3)) = false := bne_eq_false_iff_eq.mpr c44
         clear c44
         have H' := Z0.mk H
         clear H
         have hnb45 := z4.out
         have hnc45 := z5.out
         have hcz46_0 : wr.cell? ⟨z2, 0, none⟩ = some (.slice A0_0 l0_0.length c0_0) := (Z1 z0.out 0).trans rfl
         have hcz46_1 : wr.cell? ⟨z2, 1, none⟩ = some (.slice A0_1 l0_1.length c0_1) := (Z1 z0.out 1).trans rfl
         have hfz46_0 := Z2 z0.out 0
         have hfz46_1 := Z2 z0.out 1
         have zB : 0 ≤ (x7_3 : Int) := of_decide_eq_true (by (with_reducible assumption))
         have zC : x7_3 < (l0_1.length : Int) := of_decide_eq_true (by (with_reducible assumption))
         obtain ⟨yj, zX, zg⟩ := Kd.ZD HR0_1.out x7_3 zB zC
         cases zX
         replace zg := (HB.out.cell (World.block_lt_of_cell? w _ zg)).trans zg
         replace zB := eq_true zB
         replace zC := eq_true zC
         have hcz47_0 : wr.cell? ⟨z3, 0, none⟩ = some (.slice A1_0 l1_0.length c1_0) := (Z1 z1.out 0).trans rfl
         have hcz47_1 : wr.cell? ⟨z3, 1, none⟩ = some (.slice A1_1 l1_1.length c1_1) := (Z1 z1.out 1).trans rfl
         have hfz47_0 := Z2 z1.out 0
         have hfz47_1 := Z2 z1.out 1
         have zD : 0 ≤ (x7_3 : Int) := of_decide_eq_true (by (with_reducible assumption))
         have zE : x7_3 < (l1_1.length : Int) := of_decide_eq_true (by (with_reducible assumption))
         obtain ⟨yk, zY, zh⟩ := Kd.ZD HR1_1.out x7_3 zD zE
         cases zY
         replace zh := (HB.out.cell (World.block_lt_of_cell? w _ zh)).trans zh
         replace zD := eq_true zD
         replace zE := eq_true zE
         go_wp2
         repeat (go_quiet (fail); try go_wp2)
         go_roundg k3
         case measure => have := HJ2.out; have := HK2.out; have := HK3.out; omega
         case rel => exact ⟨(wrap64 (x7_3 + 1)), (by rfl), H', ⟨by have := HJ2.out; have := HK2.out; have := HK3.out; omega⟩, ⟨by (with_reducible repeat (refine Jg ?_ _)); exact z0.out⟩, ⟨by (with_reducible repeat (refine Jg ?_ _)); exact z1.out⟩, ⟨by repeat ((with_reducible first | exact HB.out | apply ZW))⟩⟩
      rw [if_pos c14] at H
      have c14b0 : decide (x5_2 < (l0_0.length : Int)) = true := decide_eq_true c14
      clear c14
      by_cases c15 : 0 ≤ x5_2
      rotate_left
      ·rw [if_neg c15] at H
       exact absurd H (by simp)
      rw [if_pos c15] at H
      have c15b0 : decide (0 ≤ x5_2) = true := decide_eq_true c15
      clear c15
      by_cases c16 : x5_2 < (l1_0.length : Int)
      rotate_left
      ·rw [if_neg c16] at H
       exact absurd H (by simp)
      rw [if_pos c16] at H
      have c16b0 : decide (x5_2 < (l1_0.length : Int)) = true := decide_eq_true c16
      clear c16
      by_cases c17 : ((Z3 l0_0 x5_2).length : Int) = ((Z3 l1_0 x5_2).length : Int)
      rotate_left
      ·rw [if_neg c17] at H
       have c17b0 : (((Z3 l0_0 x5_2).length : Int) == ((Z3 l1_0 x5_2).length : Int)) = false := beq_eq_false_iff_ne.mpr c17
       have c17b1 : (((Z3 l0_0 x5_2).length : Int) != ((Z3 l1_0 x5_2).length : Int)) = true := bne_iff_ne.mpr c17
       have c17b2 : ((Z3 l0_0 x5_2).length == (Z3 l1_0 x5_2).length) = false := by (simp at c17 ⊢; omega)
       obtain rfl := Option.some.inj H
       have hnb36 := z4.out
       have hnc36 := z5.out
       have hcz37_0 : wr.cell? ⟨z2, 0, none⟩ = some (.slice A0_0 l0_0.length c0_0) := (Z1 z0.out 0).trans rfl
       have hcz37_1 : wr.cell? ⟨z2, 1, none⟩ = some (.slice A0_1 l0_1.length c0_1) := (Z1 z0.out 1).trans rfl
       have hfz37_0 := Z2 z0.out 0
       have hfz37_1 := Z2 z0.out 1
       have zw : 0 ≤ (x5_2 : Int) := of_decide_eq_true (by (with_reducible assumption))
       have zx : x5_2 < (l0_0.length : Int) := of_decide_eq_true (by (with_reducible assumption))
       obtain ⟨zl, yb, yc, zZ, zc, zo, zp⟩ := jZ HR0_0.out x5_2 zw zx
       cases zZ
       replace zc := (HB.out.cell (World.block_lt_of_cell? w _ zc)).trans zc
       have y5 := Z0.mk zp
       have y6 := Z0.mk zo
       clear zp zo
       replace zw := eq_true zw
       replace zx := eq_true zx
       have hcz38_0 : wr.cell? ⟨z3, 0, none⟩ = some (.slice A1_0 l1_0.length c1_0) := (Z1 z1.out 0).trans rfl
       have hcz38_1 : wr.cell? ⟨z3, 1, none⟩ = some (.slice A1_1 l1_1.length c1_1) := (Z1 z1.out 1).trans rfl
       have hfz38_0 := Z2 z1.out 0
       have hfz38_1 := Z2 z1.out 1
       have zy : 0 ≤ (x5_2 : Int) := of_decide_eq_true (by (with_reducible assumption))
       have zz : x5_2 < (l1_0.length : Int) := of_decide_eq_true (by (with_reducible assumption))
       obtain ⟨zA, yd, ye, y0, zd, zq, zr⟩ := jZ HR1_0.out x5_2 zy zz
       cases y0
       replace zd := (HB.out.cell (World.block_lt_of_cell? w _ zd)).trans zd
       have y7 := Z0.mk zr
       have y8 := Z0.mk zq
       clear zr zq
       replace zy := eq_true zy
       replace zz := eq_true zz
       go_wp2
       repeat (go_quiet (fail); try go_wp2)
       go_ret
       exact ⟨by rfl, by repeat ((with_reducible first | exact HB.out | apply ZW))⟩
      rw [if_pos c17] at H
      have c17b0 : (((Z3 l0_0 x5_2).length : Int) == ((Z3 l1_0 x5_2).length : Int)) = true := beq_iff_eq.mpr c17
      have c17b1 : (((Z3 l0_0 x5_2).length : Int) != ((Z3 l1_0 x5_2).length : Int)) = false := bne_eq_false_iff_eq.mpr c17
      have c17b2 : ((Z3 l0_0 x5_2).length == (Z3 l1_0 x5_2).length) = true := by (simp at c17 ⊢; omega)
      clear c17
      have H' := Z0.mk H
      clear H
      have hnb18 := z4.out
      have hnc18 := z5.out
      have hcz19_0 : wr.cell? ⟨z2, 0, none⟩ = some (.slice A0_0 l0_0.length c0_0) := (Z1 z0.out 0).trans rfl
      have hcz19_1 : wr.cell? ⟨z2, 1, none⟩ = some (.slice A0_1 l0_1.length c0_1) := (Z1 z0.out 1).trans rfl
      have hfz19_0 := Z2 z0.out 0
      have hfz19_1 := Z2 z0.out 1
      have zw : 0 ≤ (x5_2 : Int) := of_decide_eq_true (by (with_reducible assumption))
      have zx : x5_2 < (l0_0.length : Int) := of_decide_eq_true (by (with_reducible assumption))
      obtain ⟨zl, yb, yc, zZ, zc, zo, zp⟩ := jZ HR0_0.out x5_2 zw zx
      cases zZ
      replace zc := (HB.out.cell (World.block_lt_of_cell? w _ zc)).trans zc
      have y5 := Z0.mk zp
      have y6 := Z0.mk zo
      clear zp zo
      replace zw := eq_true zw
      replace zx := eq_true zx
      have hcz20_0 : wr.cell? ⟨z3, 0, none⟩ = some (.slice A1_0 l1_0.length c1_0) := (Z1 z1.out 0).trans rfl
      have hcz20_1 : wr.cell? ⟨z3, 1, none⟩ = some (.slice A1_1 l1_1.length c1_1) := (Z1 z1.out 1).trans rfl
      have hfz20_0 := Z2 z1.out 0
      have hfz20_1 := Z2 z1.out 1
      have zy : 0 ≤ (x5_2 : Int) := of_decide_eq_true (by (with_reducible assumption))
      have zz : x5_2 < (l1_0.length : Int) := of_decide_eq_true (by (with_reducible assumption))
      obtain ⟨zA, yd, ye, y0, zd, zq, zr⟩ := jZ HR1_0.out x5_2 zy zz
      cases y0
      replace zd := (HB.out.cell (World.block_lt_of_cell? w _ zd)).trans zd
      have y7 := Z0.mk zr
      have y8 := Z0.mk zq
      clear zr zq
      replace zy := eq_true zy
      replace zz := eq_true zz
      go_wp2
      repeat (go_quiet (fail); try go_wp2)
      go_loopg [6] k2 (fun kq v6 w' => ∃ (x6_3 : Int), v6 = .int .i64 x6_3 ∧ Z0 (Zj.l1 kq x5_2 x6_3 l0_0 l0_1 l1_0 l1_1 = some r) ∧ Z0 (kq ≤ k2) ∧ Z0 (w'.heap[z2]? = some (.cells #[(.slice (some zl) l0_0.length c0_0), (.slice A0_1 l0_1.length c0_1)] 26 (0, 0))) ∧ Z0 (w'.heap[z3]? = some (.cells #[(.slice (some zA) l1_0.length c1_0), (.slice A1_1 l1_1.length c1_1)] 26 (0, 0))) ∧ Z0 (Below w.heap.size w w'))
      case atStart => exact ⟨(0), (by rfl), H', ⟨Nat.le_refl _⟩, ⟨by (with_reducible repeat (refine Jg ?_ _)); exact z0.out⟩, ⟨by (with_reducible repeat (refine Jg ?_ _)); exact z1.out⟩, ⟨by repeat ((with_reducible first | exact HB.out | apply ZW))⟩⟩
      case round =>
       clear H'
       clear c14b0 c15b0 c16b0 c17b0 c17b1 c17b2 hcz19_0 hcz19_1 hcz20_0 hcz20_1 hfz19_0 hfz19_1 hfz20_0 hfz20_1 zc zd zw zy zx zz
       obtain ⟨x6_3, rfl, HA, HK3, z0, z1, HB⟩ := hrel
       cases gk with
       | zero => exact absurd HA.out (by simp [Zj.l1])
       | succ k3 =>
        have H := HA.out
        clear HA
        simp only [Zj.l1] at H
        by_cases c21 : 0 ≤ x5_2
        rotate_left
        ·rw [if_neg c21] at H
         exact absurd H (by simp)
        rw [if_pos c21] at H
        have c21b0 : decide (0 ≤ x5_2) = true := decide_eq_true c21
        clear c21
        by_cases c22 : x5_2 < (l0_0.length : Int)
        rotate_left
        ·rw [if_neg c22] at H
         exact absurd H (by simp)
        rw [if_pos c22] at H
        have c22b0 : decide (x5_2 < (l0_0.length : Int)) = true := decide_eq_true c22
        clear c22
        by_cases c23 : x6_3 < ((Z3 l0_0 x5_2).length : Int)
        rotate_left
        ·rw [if_neg c23] at H
         have c23b0 : decide (x6_3 < ((Z3 l0_0 x5_2).length : Int)) = false := decide_eq_false c23
         clear c23
         have H' := Z0.mk H
         clear H
         have hnb34 := z4.out
         have hnc34 := z5.out
         have hcz35_0 : wr.cell? ⟨z2, 0, none⟩ = some (.slice (some zl) l0_0.length c0_0) := (Z1 z0.out 0).trans rfl
         have hcz35_1 : wr.cell? ⟨z2, 1, none⟩ = some (.slice A0_1 l0_1.length c0_1) := (Z1 z0.out 1).trans rfl
         have hfz35_0 := Z2 z0.out 0
         have hfz35_1 := Z2 z0.out 1
         have zm : 0 ≤ (x5_2 : Int) := of_decide_eq_true (by (with_reducible assumption))
         have zn : x5_2 < (l0_0.length : Int) := of_decide_eq_true (by (with_reducible assumption))
         obtain ⟨zN, zV, zW, zQ, z8, ze, zf⟩ := jZ HR0_0.out x5_2 zm zn
         obtain rfl : zl = zN := (by injection zQ)
         replace z8 := (HB.out.cell (World.block_lt_of_cell? w _ z8)).trans z8
         have zR := Z0.mk zf
         have zS := Z0.mk ze
         clear zf ze
         replace zm := eq_true zm
         replace zn := eq_true zn
         go_wp2
         repeat (go_quiet (fail); try go_wp2)
         go_roundg k3
         case measure => have := HJ2.out; have := HK2.out; have := HK3.out; omega
         case rel => exact ⟨(wrap64 (x5_2 + 1)), (by rfl), H', ⟨by have := HJ2.out; have := HK2.out; have := HK3.out; omega⟩, ⟨z0.out⟩, ⟨z1.out⟩, ⟨HB.out⟩⟩
        rw [if_pos c23] at H
        have c23b0 : decide (x6_3 < ((Z3 l0_0 x5_2).length : Int)) = true := decide_eq_true c23
        clear c23
        by_cases c24 : 0 ≤ x6_3
        rotate_left
        ·rw [if_neg c24] at H
         exact absurd H (by simp)
        rw [if_pos c24] at H
        have c24b0 : decide (0 ≤ x6_3) = true := decide_eq_true c24
        clear c24
        by_cases c25 : x5_2 < (l1_0.length : Int)
        rotate_left
        ·rw [if_neg c25] at H
         exact absurd H (by simp)
        rw [if_pos c25] at H
        have c25b0 : decide (x5_2 < (l1_0.length : Int)) = true := decide_eq_true c25
        clear c25
        by_cases c26 : x6_3 < ((Z3 l1_0 x5_2).length : Int)
        rotate_left
        ·rw [if_neg c26] at H
         exact absurd H (by simp)
        rw [if_pos c26] at H
        have c26b0 : decide (x6_3 < ((Z3 l1_0 x5_2).length : Int)) = true := decide_eq_true c26
        clear c26
        by_cases c27 : (rd (Z3 l0_0 x5_2) x6_3) = (rd (Z3 l1_0 x5_2) x6_3)
        rotate_left
        ·rw [if_neg c27] at H
         have c27b0 : ((rd (Z3 l0_0 x5_2) x6_3) == (rd (Z3 l1_0 x5_2) x6_3)) = false := beq_eq_false_iff_ne.mpr c27
         have c27b1 : ((rd (Z3 l0_0 x5_2) x6_3) != (rd (Z3 l1_0 x5_2) x6_3)) = true := bne_iff_ne.mpr c27
         obtain rfl := Option.some.inj H
         have hnb31 := z4.out
         have hnc31 := z5.out
         have hcz32_0 : wr.cell? ⟨z2, 0, none⟩ = some (.slice (some zl) l0_0.length c0_0) := (Z1 z0.out 0).trans rfl
         have hcz32_1 : wr.cell? ⟨z2, 1, none⟩ = some (.slice A0_1 l0_1.length c0_1) := (Z1 z0.out 1).trans rfl
         have hfz32_0 := Z2 z0.out 0
         have hfz32_1 := Z2 z0.out 1
         have zm : 0 ≤ (x5_2 : Int) := of_decide_eq_true (by (with_reducible assumption))
         have zn : x5_2 < (l0_0.length : Int) := of_decide_eq_true (by (with_reducible assumption))
         obtain ⟨zN, zV, zW, zQ, z8, ze, zf⟩ := jZ HR0_0.out x5_2 zm zn
         obtain rfl : zl = zN := (by injection zQ)
         replace z8 := (HB.out.cell (World.block_lt_of_cell? w _ z8)).trans z8
         have zR := Z0.mk zf
         have zS := Z0.mk ze
         clear zf ze
         replace zm := eq_true zm
         replace zn := eq_true zn
         have zF : 0 ≤ (x5_2 : Int) := of_decide_eq_true (by (with_reducible assumption))
         have zG : x5_2 < (l0_0.length : Int) := of_decide_eq_true (by (with_reducible assumption))
         obtain ⟨zT, yf, yg, y1, zb, zs, zt⟩ := jZ HR0_0.out x5_2 zF zG
         obtain rfl : zl = zT := (by injection y1)
         replace zb := (HB.out.cell (World.block_lt_of_cell? w _ zb)).trans zb
         have zO := Z0.mk zt
         have y9 := Z0.mk zs
         clear zt zs
         replace zF := eq_true zF
         replace zG := eq_true zG
         have ea_ := Option.some.inj (z8.symm.trans zb)
         injection ea_ with ea_ en_ ec_
         subst ea_
         subst ec_
         clear en_
         have zH : 0 ≤ (x6_3 : Int) := of_decide_eq_true (by (with_reducible assumption))
         have zI : x6_3 < ((Z3 l0_0 x5_2).length : Int) := of_decide_eq_true (by (with_reducible assumption))
         obtain ⟨yl, y2, zi⟩ := Kd.ZD zO.out x6_3 zH zI
         cases y2
         replace zi := (HB.out.cell (World.block_lt_of_cell? w _ zi)).trans zi
         replace zH := eq_true zH
         replace zI := eq_true zI
         have hcz33_0 : wr.cell? ⟨z3, 0, none⟩ = some (.slice (some zA) l1_0.length c1_0) := (Z1 z1.out 0).trans rfl
         have hcz33_1 : wr.cell? ⟨z3, 1, none⟩ = some (.slice A1_1 l1_1.length c1_1) := (Z1 z1.out 1).trans rfl
         have hfz33_0 := Z2 z1.out 0
         have hfz33_1 := Z2 z1.out 1
         have zJ : 0 ≤ (x5_2 : Int) := of_decide_eq_true (by (with_reducible assumption))
         have zK : x5_2 < (l1_0.length : Int) := of_decide_eq_true (by (with_reducible assumption))
         obtain ⟨zU, yh, yi, y3, zj, zu, zv⟩ := jZ HR1_0.out x5_2 zJ zK
         obtain rfl : zA = zU := (by injection y3)
         replace zj := (HB.out.cell (World.block_lt_of_cell? w _ zj)).trans zj
         have zP := Z0.mk zv
         have ya := Z0.mk zu
         clear zv zu
         replace zJ := eq_true zJ
         replace zK := eq_true zK
         have zL : 0 ≤ (x6_3 : Int) := of_decide_eq_true (by (with_reducible assumption))
         have zM : x6_3 < ((Z3 l1_0 x5_2).length : Int) := of_decide_eq_true (by (with_reducible assumption))
         obtain ⟨ym, y4, zk⟩ := Kd.ZD zP.out x6_3 zL zM
         cases y4
         replace zk := (HB.out.cell (World.block_lt_of_cell? w _ zk)).trans zk
         replace zL := eq_true zL
         replace zM := eq_true zM
         go_wp2
         repeat (go_quiet (fail); try go_wp2)
         go_ret
         exact ⟨by rfl, by repeat ((with_reducible first | exact HB.out | apply ZW))⟩
        rw [if_pos c27] at H
        have c27b0 : ((rd (Z3 l0_0 x5_2) x6_3) == (rd (Z3 l1_0 x5_2) x6_3)) = true := beq_iff_eq.mpr c27
        have c27b1 : ((rd (Z3 l0_0 x5_2) x6_3) != (rd (Z3 l1_0 x5_2) x6_3)) = false := bne_eq_false_iff_eq.mpr c27
        clear c27
        have H' := Z0.mk H
        clear H
        have hnb28 := z4.out
        have hnc28 := z5.out
        have hcz29_0 : wr.cell? ⟨z2, 0, none⟩ = some (.slice (some zl) l0_0.length c0_0) := (Z1 z0.out 0).trans rfl
        have hcz29_1 : wr.cell? ⟨z2, 1, none⟩ = some (.slice A0_1 l0_1.length c0_1) := (Z1 z0.out 1).trans rfl
        have hfz29_0 := Z2 z0.out 0
        have hfz29_1 := Z2 z0.out 1
        have zm : 0 ≤ (x5_2 : Int) := of_decide_eq_true (by (with_reducible assumption))
        have zn : x5_2 < (l0_0.length : Int) := of_decide_eq_true (by (with_reducible assumption))
        obtain ⟨zN, zV, zW, zQ, z8, ze, zf⟩ := jZ HR0_0.out x5_2 zm zn
        obtain rfl : zl = zN := (by injection zQ)
        replace z8 := (HB.out.cell (World.block_lt_of_cell? w _ z8)).trans z8
        have zR := Z0.mk zf
        have zS := Z0.mk ze
        clear zf ze
        replace zm := eq_true zm
        replace zn := eq_true zn
        have zF : 0 ≤ (x5_2 : Int) := of_decide_eq_true (by (with_reducible assumption))
        have zG : x5_2 < (l0_0.length : Int) := of_decide_eq_true (by (with_reducible assumption))
        obtain ⟨zT, yf, yg, y1, zb, zs, zt⟩ := jZ HR0_0.out x5_2 zF zG
        obtain rfl : zl = zT := (by injection y1)
        replace zb := (HB.out.cell (World.block_lt_of_cell? w _ zb)).trans zb
        have zO := Z0.mk zt
        have y9 := Z0.mk zs
        clear zt zs
        replace zF := eq_true zF
        replace zG := eq_true zG
        have ea_ := Option.some.inj (z8.symm.trans zb)
        injection ea_ with ea_ en_ ec_
        subst ea_
        subst ec_
        clear en_
        have zH : 0 ≤ (x6_3 : Int) := of_decide_eq_true (by (with_reducible assumption))
        have zI : x6_3 < ((Z3 l0_0 x5_2).length : Int) := of_decide_eq_true (by (with_reducible assumption))
        obtain ⟨yl, y2, zi⟩ := Kd.ZD zO.out x6_3 zH zI
        cases y2
        replace zi := (HB.out.cell (World.block_lt_of_cell? w _ zi)).trans zi
        replace zH := eq_true zH
        replace zI := eq_true zI
        have hcz30_0 : wr.cell? ⟨z3, 0, none⟩ = some (.slice (some zA) l1_0.length c1_0) := (Z1 z1.out 0).trans rfl
        have hcz30_1 : wr.cell? ⟨z3, 1, none⟩ = some (.slice A1_1 l1_1.length c1_1) := (Z1 z1.out 1).trans rfl
        have hfz30_0 := Z2 z1.out 0
        have hfz30_1 := Z2 z1.out 1
        have zJ : 0 ≤ (x5_2 : Int) := of_decide_eq_true (by (with_reducible assumption))
        have zK : x5_2 < (l1_0.length : Int) := of_decide_eq_true (by (with_reducible assumption))
        obtain ⟨zU, yh, yi, y3, zj, zu, zv⟩ := jZ HR1_0.out x5_2 zJ zK
        obtain rfl : zA = zU := (by injection y3)
        replace zj := (HB.out.cell (World.block_lt_of_cell? w _ zj)).trans zj
        have zP := Z0.mk zv
        have ya := Z0.mk zu
        clear zv zu
        replace zJ := eq_true zJ
        replace zK := eq_true zK
        have zL : 0 ≤ (x6_3 : Int) := of_decide_eq_true (by (with_reducible assumption))
        have zM : x6_3 < ((Z3 l1_0 x5_2).length : Int) := of_decide_eq_true (by (with_reducible assumption))
        obtain ⟨ym, y4, zk⟩ := Kd.ZD zP.out x6_3 zL zM
        cases y4
        replace zk := (HB.out.cell (World.block_lt_of_cell? w _ zk)).trans zk
        replace zL := eq_true zL
        replace zM := eq_true zM
        go_wp2
        repeat (go_quiet (fail); try go_wp2)
        go_roundg k3
        case measure => have := HJ2.out; have := HK2.out; have := HK3.out; omega
        case rel => exact ⟨(wrap64 (x6_3 + 1)), (by rfl), H', ⟨by have := HJ2.out; have := HK2.out; have := HK3.out; omega⟩, ⟨by (with_reducible repeat (refine Jg ?_ _)); exact z0.out⟩, ⟨by (with_reducible repeat (refine Jg ?_ _)); exact z1.out⟩, ⟨by repeat ((with_reducible first | exact HB.out | apply ZW))⟩⟩
end Go.Proofs.YthpnipdoehbiaaaDoor.Pr
