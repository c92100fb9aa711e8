/- Go functions as Lean functions, with contracts. -/
import Derived.Test.YthpnipdoehbiaaaDoorRSm
import Derived.Test.YthpnipdoehbiaaaDoorRPr12
import Derived.Test.YthpnipdoehbiaaaDoorRPr18
namespace Go.Proofs.YthpnipdoehbiaaaDoor.Pr
open Go.RowKit Go.Proofs.YthpnipdoehbiaaaDoorW.PrintWords Go.Proofs.YthpnipdoehbiaaaDoorW.PrintLast Go.Proofs.YthpnipdoehbiaaaDoorW.PrintMore
attribute [local go_sem] jF jD jQ jO jx jw jG jE
set_option linter.unusedVariables false
set_option linter.unusedSimpArgs false
mutual
def Zo.j0 : Nat → Bool → List (List Int) → List (List (S53)) → List (List Int) → List (List (S53)) → Option (Bool)
 | 0, _, _, _, _, _ => none
 | k + 1, x22, z6, z7, z8, z9 => if x22 = true then (some false) else (Zo.l0 k 0 z6 z7 z8 z9)
def Zo.l0 : Nat → Int → List (List Int) → List (List (S53)) → List (List Int) → List (List (S53)) → Option (Bool)
 | 0, _, _, _, _, _ => none
 | k + 1, x5, z6, z7, z8, z9 => if x5 < (z6.length : Int) then (if 0 ≤ x5 then (if x5 < (z8.length : Int) then ((Zz.f k (Z3 z6 x5) (Z3 z8 x5)).bind fun zC => (if zC = true then (Zo.l0 k (wrap64 (x5 + 1)) z6 z7 z8 z9) else (some false))) else (none)) else (none)) else (Zo.l1 k 0 z6 z7 z8 z9)
def Zo.l1 : Nat → Int → List (List Int) → List (List (S53)) → List (List Int) → List (List (S53)) → Option (Bool)
 | 0, _, _, _, _, _ => none
 | k + 1, x6, z6, z7, z8, z9 => if x6 < (z7.length : Int) then (if 0 ≤ x6 then (if x6 < (z9.length : Int) then ((ju.f k (ZQ z7 x6) (ZQ z9 x6)).bind fun zD => (if zD = true then (Zo.l1 k (wrap64 (x6 + 1)) z6 z7 z8 z9) else (some false))) else (none)) else (none)) else (some true)
end
def Zo.f (k : Nat) (l0_0 : List (List Int)) (l0_1 : List (List (S53))) (l1_0 : List (List Int)) (l1_1 : List (List (S53))) : Option (Bool) := if (l0_0.length : Int) = (l1_0.length : Int) then (Zo.j0 k ((l0_1.length : Int) != (l1_1.length : Int)) l0_0 l0_1 l1_0 l1_1) else (Zo.j0 k true l0_0 l0_1 l1_0 l1_1)
set_option maxHeartbeats 8000000 in
set_option maxRecDepth 100000 in
theorem Zo.calls (k : Nat) (A0_0 : Option Addr) (c0_0 : Nat) (l0_0 : List (List Int)) (A0_1 : Option Addr) (c0_1 : Nat) (l0_1 : List (List (S53))) (A1_0 : Option Addr) (c1_0 : Nat) (l1_0 : List (List Int)) (A1_1 : Option Addr) (c1_1 : Nat) (l1_1 : List (List (S53))) (r : Bool) (w : World) (hr0_0 : Kd.C (Kd.slice 3 (Kd.int .i64)) w A0_0 l0_0.length l0_0) (hc0_0 : l0_0.length ≤ c0_0) (hr0_1 : Kd.C (Kd.slice 53 k53) w A0_1 l0_1.length l0_1) (hc0_1 : l0_1.length ≤ c0_1) (hr1_0 : Kd.C (Kd.slice 3 (Kd.int .i64)) w A1_0 l1_0.length l1_0) (hc1_0 : l1_0.length ≤ c1_0) (hr1_1 : Kd.C (Kd.slice 53 k53) w A1_1 l1_1.length l1_1) (hc1_1 : l1_1.length ≤ c1_1) (h : Zo.f k l0_0 l0_1 l1_0 l1_1 = some r) :
  Calls Tryd.prog 22 #[.agg #[.slice A0_0 l0_0.length c0_0, .slice A0_1 l0_1.length c0_1], .agg #[.slice A1_0 l1_0.length c1_0, .slice A1_1 l1_1.length c1_1]] w fun e w' => e = .returned (.bool r) ∧ Below w.heap.size w w' := by
 have hu30 := Tryd.underlying30
 have HR0_0 := Z0.mk hr0_0
 have HC0_0 := Z0.mk hc0_0
 clear hr0_0 hc0_0
 have HR0_1 := Z0.mk hr0_1
 have HC0_1 := Z0.mk hc0_1
 clear hr0_1 hc0_1
 have HR1_0 := Z0.mk hr1_0
 have HC1_0 := Z0.mk hc1_0
 clear hr1_0 hc1_0
 have HR1_1 := Z0.mk hr1_1
 have HC1_1 := Z0.mk hc1_1
 clear hr1_1 hc1_1
 have HB := Z0.mk (Below.refl w.heap.size w)
 have H : (if (l0_0.length : Int) = (l1_0.length : Int) then (Zo.j0 k ((l0_1.length : Int) != (l1_1.length : Int)) l0_0 l0_1 l1_0 l1_1) else (Zo.j0 k true l0_0 l0_1 l1_0 l1_1)) = some r := h
 clear h
 have HC3 := Z0.mk H
 clear H
 go_enter Tryd.func22, Tryd.ntmps22
 go_upto_region 1 with (first | ((with_reducible refine ZI (N := 2) rfl ?_); (try (refine jh (by rfl) ?_; dsimp only)); refine jk ?hg (N := 2) ?hd (cs := #[.slice A0_0 l0_0.length c0_0, .slice A0_1 l0_1.length c0_1]) (t := 30) ?hr ?_; (case hd => rfl); (case hg => rfl); (case hr => (go_simp; done)); intro z2 hg w4 hbox hb; have n0_ := Z0.mk (Z9 HB.out hb); have n1_ := Z0.mk (hbox); have n2_ := Z0.mk ((by rw [hg]; exact (Z4 HB.out) : w.heap.size ≤ z2)); have n3_ := Z0.mk ((by rw [hg]; exact (Z4 HB.out) : w.heap.size ≤ z2)); clear HB; have HB := n0_; have z0 := n1_; have zW := n2_; have zX := n3_; clear n0_ n1_ n2_ n3_; clear hb hbox hg) | ((with_reducible refine ZI (N := 3) rfl ?_); (try (refine jh (by rfl) ?_; dsimp only)); refine jk ?hg (N := 3) ?hd (cs := #[.slice A1_0 l1_0.length c1_0, .slice A1_1 l1_1.length c1_1]) (t := 30) ?hr ?_; (case hd => rfl); (case hg => rfl); (case hr => (go_simp; done)); intro z3 hg w5 hbox hb; have n0_ := Z0.mk (Z5 (g := z2) (o := .cells #[.slice A0_0 l0_0.length c0_0, .slice A0_1 l0_1.length c0_1] 30 (0, 0)) (z0.out) hb); have n1_ := Z0.mk (Z9 HB.out hb); have n2_ := Z0.mk (hbox); have n3_ := Z0.mk ((by rw [hg]; exact (Z4 HB.out) : w.heap.size ≤ z3)); have n4_ := Z0.mk ((by rw [hg]; exact (Z4 HB.out) : w.heap.size ≤ z3)); have n5_ := Z0.mk ((by rw [hg]; exact Nat.ne_of_lt (ZF (g := z2) (o := .cells #[.slice A0_0 l0_0.length c0_0, .slice A0_1 l0_1.length c0_1] 30 (0, 0)) (z0.out)) : z2 ≠ z3)); have n6_ := Z0.mk ((by rw [hg]; exact Nat.ne_of_gt (ZF (g := z2) (o := .cells #[.slice A0_0 l0_0.length c0_0, .slice A0_1 l0_1.length c0_1] 30 (0, 0)) (z0.out)) : z3 ≠ z2)); clear z0; clear HB; have z0 := n0_; have HB := n1_; have z1 := n2_; have zY := n3_; have zZ := n4_; have z4 := n5_; have z5 := n6_; clear n0_ n1_ n2_ n3_ n4_ n5_ n6_; clear hb hbox hg))
 repeat (go_quiet (fail); go_upto_region 1 with (fail))
 (try simp only [n_])
 go_cut [22] (fun v22 wc => ∃ (kq : Nat) (x22_2 : Bool), v22 = .bool x22_2 ∧ Z0 (Zo.j0 kq x22_2 l0_0 l0_1 l1_0 l1_1 = some r) ∧ Z0 (kq ≤ k) ∧ Z0 (wc.heap[z2]? = some (.cells #[(.slice A0_0 l0_0.length c0_0), (.slice A0_1 l0_1.length c0_1)] 30 (0, 0))) ∧ Z0 (wc.heap[z3]? = some (.cells #[(.slice A1_0 l1_0.length c1_0), (.slice A1_1 l1_1.length c1_1)] 30 (0, 0))) ∧ Z0 (Below w.heap.size w wc))
 case first =>
  have H := HC3.out
  clear HC3
  by_cases c6 : (l0_0.length : Int) = (l1_0.length : Int)
  rotate_left
  ·rw [if_neg c6] at H
   have c6b0 : ((l0_0.length : Int) == (l1_0.length : Int)) = false := beq_eq_false_iff_ne.mpr c6
   have c6b1 : ((l0_0.length : Int) != (l1_0.length : Int)) = true := bne_iff_ne.mpr c6
   have c6b2 : (l0_0.length == l1_0.length) = false := by (simp at c6 ⊢; omega)
   (skip)
   have H' := Z0.mk H
   clear H
   have hnb10 := z4.out
   have hnc10 := z5.out
   have hcz11_0 : w5.cell? ⟨z2, 0, none⟩ = some (.slice A0_0 l0_0.length c0_0) := (Z1 z0.out 0).trans rfl
   have hcz11_1 : w5.cell? ⟨z2, 1, none⟩ = some (.slice A0_1 l0_1.length c0_1) := (Z1 z0.out 1).trans rfl
   have hfz11_0 := Z2 z0.out 0
   have hfz11_1 := Z2 z0.out 1
   have hcz12_0 : w5.cell? ⟨z3, 0, none⟩ = some (.slice A1_0 l1_0.length c1_0) := (Z1 z1.out 0).trans rfl
   have hcz12_1 : w5.cell? ⟨z3, 1, none⟩ = some (.slice A1_1 l1_1.length c1_1) := (Z1 z1.out 1).trans rfl
   have hfz12_0 := Z2 z1.out 0
   have hfz12_1 := Z2 z1.out 1
   go_wp2
   repeat (go_quiet (fail); try go_wp2)
   go_meet
   case rel => exact ⟨_, (true), (by rfl), H', ⟨by omega⟩, ⟨z0.out⟩, ⟨z1.out⟩, ⟨HB.out⟩⟩
  rw [if_pos c6] at H
  have c6b0 : ((l0_0.length : Int) == (l1_0.length : Int)) = true := beq_iff_eq.mpr c6
  have c6b1 : ((l0_0.length : Int) != (l1_0.length : Int)) = false := bne_eq_false_iff_eq.mpr c6
  have c6b2 : (l0_0.length == l1_0.length) = true := by (simp at c6 ⊢; omega)
  clear c6
  (skip)
  have H' := Z0.mk H
  clear H
  have hnb7 := z4.out
  have hnc7 := z5.out
  have hcz8_0 : w5.cell? ⟨z2, 0, none⟩ = some (.slice A0_0 l0_0.length c0_0) := (Z1 z0.out 0).trans rfl
  have hcz8_1 : w5.cell? ⟨z2, 1, none⟩ = some (.slice A0_1 l0_1.length c0_1) := (Z1 z0.out 1).trans rfl
  have hfz8_0 := Z2 z0.out 0
  have hfz8_1 := Z2 z0.out 1
  have hcz9_0 : w5.cell? ⟨z3, 0, none⟩ = some (.slice A1_0 l1_0.length c1_0) := (Z1 z1.out 0).trans rfl
  have hcz9_1 : w5.cell? ⟨z3, 1, none⟩ = some (.slice A1_1 l1_1.length c1_1) := (Z1 z1.out 1).trans rfl
  have hfz9_0 := Z2 z1.out 0
  have hfz9_1 := Z2 z1.out 1
  go_wp2
  repeat (go_quiet (fail); try go_wp2)
  go_meet
  case rel => exact ⟨_, (((l0_1.length : Int) != (l1_1.length : Int))), (by rfl), H', ⟨by omega⟩, ⟨z0.out⟩, ⟨z1.out⟩, ⟨HB.out⟩⟩
 case rest =>
  clear HC3
  obtain ⟨kq, x22_2, rfl, HA, HJ2, z0, z1, HB⟩ := hcut
  cases kq with
  | zero => exact absurd HA.out (by simp [Zo.j0])
  | succ kj2 =>
   have H := HA.out
   clear HA
   simp only [Zo.j0] at H
   by_cases c13 : x22_2 = true
   ·subst c13
    have H1 : (some false) = some r := by rw [if_pos rfl] at H; exact H
    clear H
    have H := H1
    clear H1
    obtain rfl := Option.some.inj H
    go_wp2
    repeat (go_quiet (fail); try go_wp2)
    go_ret
    exact ⟨by rfl, HB.out⟩
   ·replace c13 := Bool.eq_false_iff.mpr c13
    subst c13
    have H1 : (Zo.l0 kj2 0 l0_0 l0_1 l1_0 l1_1) = some r := by rw [if_neg (show ¬ (false = true) by decide)] at H; exact H
    clear H
    have H := H1
    clear H1
    have H' := Z0.mk H
    clear H
    go_wp2
    repeat (go_quiet (fail); try go_wp2)
    go_loopg [5] kj2 (fun kq v5 w' => ∃ (x5_2 : Int), v5 = .int .i64 x5_2 ∧ Z0 (Zo.l0 kq x5_2 l0_0 l0_1 l1_0 l1_1 = some r) ∧ Z0 (kq ≤ kj2) ∧ Z0 (w'.heap[z2]? = some (.cells #[(.slice A0_0 l0_0.length c0_0), (.slice A0_1 l0_1.length c0_1)] 30 (0, 0))) ∧ Z0 (w'.heap[z3]? = some (.cells #[(.slice A1_0 l1_0.length c1_0), (.slice A1_1 l1_1.length c1_1)] 30 (0, 0))) ∧ Z0 (Below w.heap.size w w'))
    case atStart => exact ⟨(0), (by rfl), H', ⟨Nat.le_refl _⟩, ⟨z0.out⟩, ⟨z1.out⟩, ⟨HB.out⟩⟩
    case round =>
     clear H'
     obtain ⟨x5_2, rfl, HA, HK2, z0, z1, HB⟩ := hrel
     cases gk with
     | zero => exact absurd HA.out (by simp [Zo.l0])
     | succ k2 =>
      have H := HA.out
      clear HA
      simp only [Zo.l0] at H
      by_cases c14 : x5_2 < (l0_0.length : Int)
      rotate_left
      ·rw [if_neg c14] at H
       have c14b0 : decide (x5_2 < (l0_0.length : Int)) = false := decide_eq_false c14
       clear c14
       have H' := Z0.mk H
       clear H
       have hnb25 := z4.out
       have hnc25 := z5.out
       have hcz26_0 : wr.cell? ⟨z2, 0, none⟩ = some (.slice A0_0 l0_0.length c0_0) := (Z1 z0.out 0).trans rfl
       have hcz26_1 : wr.cell? ⟨z2, 1, none⟩ = some (.slice A0_1 l0_1.length c0_1) := (Z1 z0.out 1).trans rfl
       have hfz26_0 := Z2 z0.out 0
       have hfz26_1 := Z2 z0.out 1
       go_wp2
       repeat (go_quiet (fail); try go_wp2)
       go_loopg [6] k2 (fun kq v6 w' => ∃ (x6_3 : Int), v6 = .int .i64 x6_3 ∧ Z0 (Zo.l1 kq x6_3 l0_0 l0_1 l1_0 l1_1 = some r) ∧ Z0 (kq ≤ k2) ∧ Z0 (w'.heap[z2]? = some (.cells #[(.slice A0_0 l0_0.length c0_0), (.slice A0_1 l0_1.length c0_1)] 30 (0, 0))) ∧ Z0 (w'.heap[z3]? = some (.cells #[(.slice A1_0 l1_0.length c1_0), (.slice A1_1 l1_1.length c1_1)] 30 (0, 0))) ∧ Z0 (Below w.heap.size w w'))
       case atStart => exact ⟨(0), (by rfl), H', ⟨Nat.le_refl _⟩, ⟨z0.out⟩, ⟨z1.out⟩, ⟨HB.out⟩⟩
       case round =>
        clear H'
        clear c14b0 hcz26_0 hcz26_1 hfz26_0 hfz26_1
        obtain ⟨x6_3, rfl, HA, HK3, z0, z1, HB⟩ := hrel
        cases gk with
        | zero => exact absurd HA.out (by simp [Zo.l1])
        | succ k3 =>
         have H := HA.out
         clear HA
         simp only [Zo.l1] at H
         by_cases c27 : x6_3 < (l0_1.length : Int)
         rotate_left
         ·rw [if_neg c27] at H
          have c27b0 : decide (x6_3 < (l0_1.length : Int)) = false := decide_eq_false c27
          clear c27
          obtain rfl := Option.some.inj H
          have hnb38 := z4.out
          have hnc38 := z5.out
          have hcz39_0 : wr.cell? ⟨z2, 0, none⟩ = some (.slice A0_0 l0_0.length c0_0) := (Z1 z0.out 0).trans rfl
          have hcz39_1 : wr.cell? ⟨z2, 1, none⟩ = some (.slice A0_1 l0_1.length c0_1) := (Z1 z0.out 1).trans rfl
          have hfz39_0 := Z2 z0.out 0
          have hfz39_1 := Z2 z0.out 1
          go_wp2
          repeat (go_quiet (fail); try go_wp2)
          go_ret
          exact ⟨by rfl, HB.out⟩
         rw [if_pos c27] at H
         have c27b0 : decide (x6_3 < (l0_1.length : Int)) = true := decide_eq_true c27
         clear c27
         by_cases c28 : 0 ≤ x6_3
         rotate_left
         ·rw [if_neg c28] at H
          exact absurd H (by simp)
         rw [if_pos c28] at H
         have c28b0 : decide (0 ≤ x6_3) = true := decide_eq_true c28
         clear c28
         by_cases c29 : x6_3 < (l1_1.length : Int)
         rotate_left
         ·rw [if_neg c29] at H
          exact absurd H (by simp)
         rw [if_pos c29] at H
         have c29b0 : decide (x6_3 < (l1_1.length : Int)) = true := decide_eq_true c29
         clear c29
         replace H := Option.bind_eq_some_iff.mp H
         obtain ⟨zD, zI, H⟩ := H
         replace H : (if zD = true then (Zo.l1 k3 (wrap64 (x6_3 + 1)) l0_0 l0_1 l1_0 l1_1) else (some false)) = some r := H
         have A30 := Z0.mk zI
         clear zI
         by_cases c31 : zD = true
         rotate_left
         ·replace c31 := Bool.eq_false_iff.mpr c31
          subst c31
          have H1 : (some false) = some r := by rw [if_neg (show ¬ (false = true) by decide)] at H; exact H
          clear H
          have H := H1
          clear H1
          obtain rfl := Option.some.inj H
          have hnb35 := z4.out
          have hnc35 := z5.out
          have hcz36_0 : wr.cell? ⟨z2, 0, none⟩ = some (.slice A0_0 l0_0.length c0_0) := (Z1 z0.out 0).trans rfl
          have hcz36_1 : wr.cell? ⟨z2, 1, none⟩ = some (.slice A0_1 l0_1.length c0_1) := (Z1 z0.out 1).trans rfl
          have hfz36_0 := Z2 z0.out 0
          have hfz36_1 := Z2 z0.out 1
          have zm : 0 ≤ (x6_3 : Int) := of_decide_eq_true (by (with_reducible assumption))
          have zn : x6_3 < (l0_1.length : Int) := of_decide_eq_true (by (with_reducible assumption))
          obtain ⟨zS, zJ, zK, zE, za, ze, zf⟩ := zcb HR0_1.out x6_3 zm zn
          cases zE
          replace za := (HB.out.cell (World.block_lt_of_cell? w _ za)).trans za
          have zu := Z0.mk zf
          have zv := Z0.mk ze
          clear zf ze
          replace zm := eq_true zm
          replace zn := eq_true zn
          have hcz37_0 : wr.cell? ⟨z3, 0, none⟩ = some (.slice A1_0 l1_0.length c1_0) := (Z1 z1.out 0).trans rfl
          have hcz37_1 : wr.cell? ⟨z3, 1, none⟩ = some (.slice A1_1 l1_1.length c1_1) := (Z1 z1.out 1).trans rfl
          have hfz37_0 := Z2 z1.out 0
          have hfz37_1 := Z2 z1.out 1
          have zo : 0 ≤ (x6_3 : Int) := of_decide_eq_true (by (with_reducible assumption))
          have zp : x6_3 < (l1_1.length : Int) := of_decide_eq_true (by (with_reducible assumption))
          obtain ⟨zT, zL, zM, zF, zb, zg, zh⟩ := zcb HR1_1.out x6_3 zo zp
          cases zF
          replace zb := (HB.out.cell (World.block_lt_of_cell? w _ zb)).trans zb
          have zw := Z0.mk zh
          have zx := Z0.mk zg
          clear zh zg
          replace zo := eq_true zo
          replace zp := eq_true zp
          go_wp2_with (fail)
          repeat (go_quiet ((go_at_call 26; (with_reducible refine (ju.calls k3 _ _ (ZQ l0_1 x6_3) _ _ (ZQ l1_1 x6_3) false _ ?side1 ?side2 ?side3 ?side4 A30.out).mono ?_); (case side1 => repeat (first | exact (Kd.ZX zu.out HB.out) | (with_reducible refine Kd.za8 ?_ _))); (case side2 => exact zv.out); (case side3 => repeat (first | exact (Kd.ZX zw.out HB.out) | (with_reducible refine Kd.za8 ?_ _))); (case side4 => exact zx.out); rintro e w' ⟨rfl, ⟨nd, rfl⟩⟩; (try exact ⟨rfl, _, World.drewN_drewN _ _ _⟩))); try go_wp2_with (fail))
          go_ret
          exact ⟨by rfl, by repeat ((with_reducible first | exact HB.out | apply ZW))⟩
         subst c31
         have H1 : (Zo.l1 k3 (wrap64 (x6_3 + 1)) l0_0 l0_1 l1_0 l1_1) = some r := by rw [if_pos rfl] at H; exact H
         clear H
         have H := H1
         clear H1
         have H' := Z0.mk H
         clear H
         have hnb32 := z4.out
         have hnc32 := z5.out
         have hcz33_0 : wr.cell? ⟨z2, 0, none⟩ = some (.slice A0_0 l0_0.length c0_0) := (Z1 z0.out 0).trans rfl
         have hcz33_1 : wr.cell? ⟨z2, 1, none⟩ = some (.slice A0_1 l0_1.length c0_1) := (Z1 z0.out 1).trans rfl
         have hfz33_0 := Z2 z0.out 0
         have hfz33_1 := Z2 z0.out 1
         have zm : 0 ≤ (x6_3 : Int) := of_decide_eq_true (by (with_reducible assumption))
         have zn : x6_3 < (l0_1.length : Int) := of_decide_eq_true (by (with_reducible assumption))
         obtain ⟨zS, zJ, zK, zE, za, ze, zf⟩ := zcb HR0_1.out x6_3 zm zn
         cases zE
         replace za := (HB.out.cell (World.block_lt_of_cell? w _ za)).trans za
         have zu := Z0.mk zf
         have zv := Z0.mk ze
         clear zf ze
         replace zm := eq_true zm
         replace zn := eq_true zn
         have hcz34_0 : wr.cell? ⟨z3, 0, none⟩ = some (.slice A1_0 l1_0.length c1_0) := (Z1 z1.out 0).trans rfl
         have hcz34_1 : wr.cell? ⟨z3, 1, none⟩ = some (.slice A1_1 l1_1.length c1_1) := (Z1 z1.out 1).trans rfl
         have hfz34_0 := Z2 z1.out 0
         have hfz34_1 := Z2 z1.out 1
         have zo : 0 ≤ (x6_3 : Int) := of_decide_eq_true (by (with_reducible assumption))
         have zp : x6_3 < (l1_1.length : Int) := of_decide_eq_true (by (with_reducible assumption))
         obtain ⟨zT, zL, zM, zF, zb, zg, zh⟩ := zcb HR1_1.out x6_3 zo zp
         cases zF
         replace zb := (HB.out.cell (World.block_lt_of_cell? w _ zb)).trans zb
         have zw := Z0.mk zh
         have zx := Z0.mk zg
         clear zh zg
         replace zo := eq_true zo
         replace zp := eq_true zp
         go_wp2_with (fail)
         repeat (go_quiet ((go_at_call 26; (with_reducible refine (ju.calls k3 _ _ (ZQ l0_1 x6_3) _ _ (ZQ l1_1 x6_3) true _ ?side1 ?side2 ?side3 ?side4 A30.out).mono ?_); (case side1 => repeat (first | exact (Kd.ZX zu.out HB.out) | (with_reducible refine Kd.za8 ?_ _))); (case side2 => exact zv.out); (case side3 => repeat (first | exact (Kd.ZX zw.out HB.out) | (with_reducible refine Kd.za8 ?_ _))); (case side4 => exact zx.out); rintro e w' ⟨rfl, ⟨nd, rfl⟩⟩; (try exact ⟨rfl, _, World.drewN_drewN _ _ _⟩))); try go_wp2_with (fail))
         go_roundg k3
         case measure => have := HJ2.out; have := HK2.out; have := HK3.out; omega
         case rel => exact ⟨(wrap64 (x6_3 + 1)), (by rfl), H', ⟨by have := HJ2.out; have := HK2.out; have := HK3.out; omega⟩, ⟨by (with_reducible repeat (refine Jg ?_ _)); exact z0.out⟩, ⟨by (with_reducible repeat (refine Jg ?_ _)); exact z1.out⟩, ⟨by repeat ((with_reducible first | exact HB.out | apply ZW))⟩⟩
      rw [if_pos c14] at H
      have c14b0 : decide (x5_2 < (l0_0.length : Int)) = true := decide_eq_true c14
      clear c14
      by_cases c15 : 0 ≤ x5_2
      rotate_left
      ·rw [if_neg c15] at H
       exact absurd H (by simp)
      rw [if_pos c15] at H
      have c15b0 : decide (0 ≤ x5_2) = true := decide_eq_true c15
      clear c15
      by_cases c16 : x5_2 < (l1_0.length : Int)
      rotate_left
      ·rw [if_neg c16] at H
       exact absurd H (by simp)
      rw [if_pos c16] at H
      have c16b0 : decide (x5_2 < (l1_0.length : Int)) = true := decide_eq_true c16
      clear c16
      replace H := Option.bind_eq_some_iff.mp H
      obtain ⟨zC, zN, H⟩ := H
      replace H : (if zC = true then (Zo.l0 k2 (wrap64 (x5_2 + 1)) l0_0 l0_1 l1_0 l1_1) else (some false)) = some r := H
      have A17 := Z0.mk zN
      clear zN
      by_cases c18 : zC = true
      rotate_left
      ·replace c18 := Bool.eq_false_iff.mpr c18
       subst c18
       have H1 : (some false) = some r := by rw [if_neg (show ¬ (false = true) by decide)] at H; exact H
       clear H
       have H := H1
       clear H1
       obtain rfl := Option.some.inj H
       have hnb22 := z4.out
       have hnc22 := z5.out
       have hcz23_0 : wr.cell? ⟨z2, 0, none⟩ = some (.slice A0_0 l0_0.length c0_0) := (Z1 z0.out 0).trans rfl
       have hcz23_1 : wr.cell? ⟨z2, 1, none⟩ = some (.slice A0_1 l0_1.length c0_1) := (Z1 z0.out 1).trans rfl
       have hfz23_0 := Z2 z0.out 0
       have hfz23_1 := Z2 z0.out 1
       have zq : 0 ≤ (x5_2 : Int) := of_decide_eq_true (by (with_reducible assumption))
       have zr : x5_2 < (l0_0.length : Int) := of_decide_eq_true (by (with_reducible assumption))
       obtain ⟨zU, zO, zP, zG, zc, zi, zj⟩ := jZ HR0_0.out x5_2 zq zr
       cases zG
       replace zc := (HB.out.cell (World.block_lt_of_cell? w _ zc)).trans zc
       have zy := Z0.mk zj
       have zz := Z0.mk zi
       clear zj zi
       replace zq := eq_true zq
       replace zr := eq_true zr
       have hcz24_0 : wr.cell? ⟨z3, 0, none⟩ = some (.slice A1_0 l1_0.length c1_0) := (Z1 z1.out 0).trans rfl
       have hcz24_1 : wr.cell? ⟨z3, 1, none⟩ = some (.slice A1_1 l1_1.length c1_1) := (Z1 z1.out 1).trans rfl
       have hfz24_0 := Z2 z1.out 0
       have hfz24_1 := Z2 z1.out 1
       have zs : 0 ≤ (x5_2 : Int) := of_decide_eq_true (by (with_reducible assumption))
       have zt : x5_2 < (l1_0.length : Int) := of_decide_eq_true (by (with_reducible assumption))
       obtain ⟨zV, zQ, zR, zH, zd, zk, zl⟩ := jZ HR1_0.out x5_2 zs zt
       cases zH
       replace zd := (HB.out.cell (World.block_lt_of_cell? w _ zd)).trans zd
       have zA := Z0.mk zl
       have zB := Z0.mk zk
       clear zl zk
       replace zs := eq_true zs
       replace zt := eq_true zt
       go_wp2_with (fail)
       repeat (go_quiet ((go_at_call 21; (with_reducible refine (Zz.calls k2 _ _ (Z3 l0_0 x5_2) _ _ (Z3 l1_0 x5_2) false _ ?side1 ?side2 ?side3 ?side4 A17.out).mono ?_); (case side1 => repeat (first | exact (Kd.ZX zy.out HB.out) | (with_reducible refine Kd.za8 ?_ _))); (case side2 => exact zz.out); (case side3 => repeat (first | exact (Kd.ZX zA.out HB.out) | (with_reducible refine Kd.za8 ?_ _))); (case side4 => exact zB.out); rintro e w' ⟨rfl, ⟨nd, rfl⟩⟩; (try exact ⟨rfl, _, World.drewN_drewN _ _ _⟩))); try go_wp2_with (fail))
       go_ret
       exact ⟨by rfl, by repeat ((with_reducible first | exact HB.out | apply ZW))⟩
      subst c18
      have H1 : (Zo.l0 k2 (wrap64 (x5_2 + 1)) l0_0 l0_1 l1_0 l1_1) = some r := by rw [if_pos rfl] at H; exact H
      clear H
      have H := H1
      clear H1
      have H' := Z0.mk H
      clear H
      have hnb19 := z4.out
      have hnc19 := z5.out
      have hcz20_0 : wr.cell? ⟨z2, 0, none⟩ = some (.slice A0_0 l0_0.length c0_0) := (Z1 z0.out 0).trans rfl
      have hcz20_1 : wr.cell? ⟨z2, 1, none⟩ = some (.slice A0_1 l0_1.length c0_1) := (Z1 z0.out 1).trans rfl
      have hfz20_0 := Z2 z0.out 0
      have hfz20_1 := Z2 z0.out 1
      have zq : 0 ≤ (x5_2 : Int) := of_decide_eq_true (by (with_reducible assumption))
      have zr : x5_2 < (l0_0.length : Int) := of_decide_eq_true (by (with_reducible assumption))
      obtain ⟨zU, zO, zP, zG, zc, zi, zj⟩ := jZ HR0_0.out x5_2 zq zr
      cases zG
      replace zc := (HB.out.cell (World.block_lt_of_cell? w _ zc)).trans zc
      have zy := Z0.mk zj
      have zz := Z0.mk zi
      clear zj zi
      replace zq := eq_true zq
      replace zr := eq_true zr
      have hcz21_0 : wr.cell? ⟨z3, 0, none⟩ = some (.slice A1_0 l1_0.length c1_0) := (Z1 z1.out 0).trans rfl
      have hcz21_1 : wr.cell? ⟨z3, 1, none⟩ = some (.slice A1_1 l1_1.length c1_1) := (Z1 z1.out 1).trans rfl
      have hfz21_0 := Z2 z1.out 0
      have hfz21_1 := Z2 z1.out 1
      have zs : 0 ≤ (x5_2 : Int) := of_decide_eq_true (by (with_reducible assumption))
      have zt : x5_2 < (l1_0.length : Int) := of_decide_eq_true (by (with_reducible assumption))
      obtain ⟨zV, zQ, zR, zH, zd, zk, zl⟩ := jZ HR1_0.out x5_2 zs zt
      cases zH
      replace zd := (HB.out.cell (World.block_lt_of_cell? w _ zd)).trans zd
      have zA := Z0.mk zl
      have zB := Z0.mk zk
      clear zl zk
      replace zs := eq_true zs
      replace zt := eq_true zt
      go_wp2_with (fail)
      repeat (go_quiet ((go_at_call 21; (with_reducible refine (Zz.calls k2 _ _ (Z3 l0_0 x5_2) _ _ (Z3 l1_0 x5_2) true _ ?side1 ?side2 ?side3 ?side4 A17.out).mono ?_); (case side1 => repeat (first | exact (Kd.ZX zy.out HB.out) | (with_reducible refine Kd.za8 ?_ _))); (case side2 => exact zz.out); (case side3 => repeat (first | exact (Kd.ZX zA.out HB.out) | (with_reducible refine Kd.za8 ?_ _))); (case side4 => exact zB.out); rintro e w' ⟨rfl, ⟨nd, rfl⟩⟩; (try exact ⟨rfl, _, World.drewN_drewN _ _ _⟩))); try go_wp2_with (fail))
      go_roundg k2
      case measure => have := HJ2.out; have := HK2.out; omega
      case rel => exact ⟨(wrap64 (x5_2 + 1)), (by rfl), H', ⟨by have := HJ2.out; have := HK2.out; omega⟩, ⟨by (with_reducible repeat (refine Jg ?_ _)); exact z0.out⟩, ⟨by (with_reducible repeat (refine Jg ?_ _)); exact z1.out⟩, ⟨by repeat ((with_reducible first | exact HB.out | apply ZW))⟩⟩
end Go.Proofs.YthpnipdoehbiaaaDoor.Pr
