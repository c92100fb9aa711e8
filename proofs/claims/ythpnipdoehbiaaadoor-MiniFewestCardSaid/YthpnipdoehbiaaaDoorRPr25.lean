/- Go functions as Lean functions, with contracts. -/
import Derived.Test.YthpnipdoehbiaaaDoorRSm
namespace Go.Proofs.YthpnipdoehbiaaaDoor.Pr
open Go.RowKit Go.Proofs.YthpnipdoehbiaaaDoorW.PrintWords Go.Proofs.YthpnipdoehbiaaaDoorW.PrintLast Go.Proofs.YthpnipdoehbiaaaDoorW.PrintMore
attribute [local go_sem] max2_int min2_int max_two min_two max_three min_three max_four min_four   -- for this text's walks alone
set_option linter.unusedVariables false
set_option linter.unusedSimpArgs false
mutual
def hyphenlaw11_whole.l0 : Nat → List (List Int) → Int → Int → Int → Option (Bool)
 | 0, _, _, _, _ => none
 | k + 1, x0, x1, x2, x7 => if x7 < (x0.length : Int) then (if 0 ≤ x7 then (if ((rd_L1 x0 x7).length : Int) = x2 then (hyphenlaw11_whole.l1 k x0 x1 x2 x7 0) else (some false)) else (none)) else (if (x0.length : Int) > 0 then (some (x1 == (x0.length : Int))) else (some false))
def hyphenlaw11_whole.l1 : Nat → List (List Int) → Int → Int → Int → Int → Option (Bool)
 | 0, _, _, _, _, _ => none
 | k + 1, x0, x1, x2, x7, x8 => if x8 < x2 then (if 0 ≤ x7 then (if x7 < (x0.length : Int) then (if 0 ≤ x8 then (if x8 < ((rd_L1 x0 x7).length : Int) then (if (rd (rd_L1 x0 x7) x8) < 0 then (some false) else (if (rd (rd_L1 x0 x7) x8) ≥ (x0.length : Int) then (some false) else (hyphenlaw11_whole.l1 k x0 x1 x2 x7 (wrap64 (x8 + 1))))) else (none)) else (none)) else (none)) else (none)) else (hyphenlaw11_whole.l0 k x0 x1 x2 (wrap64 (x7 + 1)))
end
def hyphenlaw11_whole.f (k : Nat) (l0 : List (List Int)) (a1 : Int) (a2 : Int) : Option (Bool) := hyphenlaw11_whole.l0 k l0 a1 a2 0
theorem hyphenlaw11_whole.mono_l : ∀ k, (∀ y0 y1 y2 y3, LeO (hyphenlaw11_whole.l0 k y0 y1 y2 y3) (hyphenlaw11_whole.l0 (k + 1) y0 y1 y2 y3)) ∧ (∀ y0 y1 y2 y3 y4, LeO (hyphenlaw11_whole.l1 k y0 y1 y2 y3 y4) (hyphenlaw11_whole.l1 (k + 1) y0 y1 y2 y3 y4))
 | 0 => ⟨fun _ _ _ _ r h => by simp [hyphenlaw11_whole.l0] at h, fun _ _ _ _ _ r h => by simp [hyphenlaw11_whole.l1] at h⟩
 | k + 1 => by
  obtain ⟨ih0, ih1⟩ := hyphenlaw11_whole.mono_l k
  refine ⟨?_, ?_⟩
  ·intro y0 y1 y2 y3
   unfold hyphenlaw11_whole.l0
   repeat' first | (with_reducible exact ih1 _ _ _ _ _) | (with_reducible exact LeO.refl _) | (with_reducible refine LeO.ite ?_ ?_)
  ·intro y0 y1 y2 y3 y4
   unfold hyphenlaw11_whole.l1
   repeat' first | (with_reducible exact ih0 _ _ _ _) | (with_reducible exact ih1 _ _ _ _ _) | (with_reducible exact LeO.refl _) | (with_reducible refine LeO.ite ?_ ?_)
theorem hyphenlaw11_whole.mono : ∀ a0 a1 a2 k, LeO (hyphenlaw11_whole.f k a0 a1 a2) (hyphenlaw11_whole.f (k + 1) a0 a1 a2) := by
 intro a0 a1 a2 k
 obtain ⟨ih0, ih1⟩ := hyphenlaw11_whole.mono_l k
 unfold hyphenlaw11_whole.f
 repeat' (with_reducible exact ih0 _ _ _ _)
set_option maxHeartbeats 8000000 in
set_option maxRecDepth 100000 in
theorem hyphenlaw11_whole.calls (k : Nat) (A0 : Option Addr) (c0 : Nat) (l0 : List (List Int)) (a1 : Int) (a2 : Int) (r : Bool) (w : World) (hr0 : Kd.C (Kd.slice 3 (Kd.int .i64)) w A0 l0.length l0) (hc0 : l0.length ≤ c0) (h : hyphenlaw11_whole.f k l0 a1 a2 = some r) :
  Calls Tryd.prog 24 #[.slice A0 l0.length c0, .int .i64 a1, .int .i64 a2] w fun e w' => e = .returned (.bool r) ∧ Drawn0 w w' := by
 have HR0 := Aside0.mk hr0
 have HC0 := Aside0.mk hc0
 clear hr0 hc0
 have H : (hyphenlaw11_whole.l0 k l0 a1 a2 0) = some r := h
 clear h
 have H' := Aside0.mk H
 clear H
 go_enter Tryd.func24, Tryd.ntmps24
 go_wp2
 go_loopg [7] k (fun kq v7 w' => ∃ (x7_1 : Int), v7 = .int .i64 x7_1 ∧ Aside0 (hyphenlaw11_whole.l0 kq l0 a1 a2 x7_1 = some r) ∧ Aside0 (kq ≤ k) ∧ Drawn0 w w')
 case atStart => exact ⟨(0), (by rfl), H', ⟨Nat.le_refl _⟩, by repeat (exact Drawn0.refl _)⟩
 case round =>
  clear H'
  obtain ⟨x7_1, rfl, HA, HK1, ⟨m1, rfl⟩⟩ := hrel
  cases gk with
  | zero => exact absurd HA.out (by simp [hyphenlaw11_whole.l0])
  | succ k1 =>
   have H := HA.out
   clear HA
   simp only [hyphenlaw11_whole.l0] at H
   by_cases c4 : x7_1 < (l0.length : Int)
   ·rw [if_pos c4] at H
    have c4b0 : decide (x7_1 < (l0.length : Int)) = true := decide_eq_true c4
    clear c4
    by_cases c5 : 0 ≤ x7_1
    ·rw [if_pos c5] at H
     have c5b0 : decide (0 ≤ x7_1) = true := decide_eq_true c5
     clear c5
     by_cases c6 : ((rd_L1 l0 x7_1).length : Int) = a2
     ·rw [if_pos c6] at H
      have c6b0 : (((rd_L1 l0 x7_1).length : Int) == a2) = true := beq_iff_eq.mpr c6
      have c6b1 : (((rd_L1 l0 x7_1).length : Int) != a2) = false := bne_eq_false_iff_eq.mpr c6
      clear c6
      have H' := Aside0.mk H
      clear H
      have p583 : 0 ≤ (x7_1 : Int) := of_decide_eq_true (by (with_reducible assumption))
      have q583 : x7_1 < (l0.length : Int) := of_decide_eq_true (by (with_reducible assumption))
      obtain ⟨ad583, A583_0, c583_0, e583, hx583_0, hl583_0, hi583_0⟩ := at_L1 HR0.out x7_1 p583 q583
      cases e583
      have HR583_0 := Aside0.mk hi583_0
      have HC583_0 := Aside0.mk hl583_0
      clear hi583_0 hl583_0
      replace p583 := eq_true p583
      replace q583 := eq_true q583
      go_wp2
      go_loopg [8] k1 (fun kq v8 w' => ∃ (x8_2 : Int), v8 = .int .i64 x8_2 ∧ Aside0 (hyphenlaw11_whole.l1 kq l0 a1 a2 x7_1 x8_2 = some r) ∧ Aside0 (kq ≤ k1) ∧ Drawn0 w w')
      case atStart => exact ⟨(0), (by rfl), H', ⟨Nat.le_refl _⟩, by repeat (first | exact Drawn0.refl _ | apply Drawn0.step)⟩
      case round =>
       clear H'
       clear c4b0 c5b0 c6b0 c6b1 hx583_0 p583 q583
       obtain ⟨x8_2, rfl, HA, HK2, ⟨m2, rfl⟩⟩ := hrel
       cases gk with
       | zero => exact absurd HA.out (by simp [hyphenlaw11_whole.l1])
       | succ k2 =>
        have H := HA.out
        clear HA
        simp only [hyphenlaw11_whole.l1] at H
        by_cases c7 : x8_2 < a2
        ·rw [if_pos c7] at H
         have c7b0 : decide (x8_2 < a2) = true := decide_eq_true c7
         clear c7
         by_cases c8 : 0 ≤ x7_1
         ·rw [if_pos c8] at H
          have c8b0 : decide (0 ≤ x7_1) = true := decide_eq_true c8
          clear c8
          by_cases c9 : x7_1 < (l0.length : Int)
          ·rw [if_pos c9] at H
           have c9b0 : decide (x7_1 < (l0.length : Int)) = true := decide_eq_true c9
           clear c9
           by_cases c10 : 0 ≤ x8_2
           ·rw [if_pos c10] at H
            have c10b0 : decide (0 ≤ x8_2) = true := decide_eq_true c10
            clear c10
            by_cases c11 : x8_2 < ((rd_L1 l0 x7_1).length : Int)
            ·rw [if_pos c11] at H
             have c11b0 : decide (x8_2 < ((rd_L1 l0 x7_1).length : Int)) = true := decide_eq_true c11
             clear c11
             by_cases c12 : (rd (rd_L1 l0 x7_1) x8_2) < 0
             ·rw [if_pos c12] at H
              have c12b0 : decide ((rd (rd_L1 l0 x7_1) x8_2) < 0) = true := decide_eq_true c12
              clear c12
              obtain rfl := Option.some.inj H
              have p584 : 0 ≤ (x7_1 : Int) := of_decide_eq_true (by (with_reducible assumption))
              have q584 : x7_1 < (l0.length : Int) := of_decide_eq_true (by (with_reducible assumption))
              obtain ⟨ad584, A584_0, c584_0, e584, hx584_0, hl584_0, hi584_0⟩ := at_L1 HR0.out x7_1 p584 q584
              obtain rfl : ad583 = ad584 := (by injection e584)
              have HR584_0 := Aside0.mk hi584_0
              have HC584_0 := Aside0.mk hl584_0
              clear hi584_0 hl584_0
              replace p584 := eq_true p584
              replace q584 := eq_true q584
              have p585 : 0 ≤ (x8_2 : Int) := of_decide_eq_true (by (with_reducible assumption))
              have q585 : x8_2 < ((rd_L1 l0 x7_1).length : Int) := of_decide_eq_true (by (with_reducible assumption))
              obtain ⟨ad585, e585, hx585_0⟩ := Kd.at_int HR584_0.out x8_2 p585 q585
              cases e585
              replace p585 := eq_true p585
              replace q585 := eq_true q585
              go_wp2
              go_ret
              exact ⟨by rfl, by repeat (first | exact Drawn0.refl _ | apply Drawn0.step)⟩
             ·rw [if_neg c12] at H
              have c12b0 : decide ((rd (rd_L1 l0 x7_1) x8_2) < 0) = false := decide_eq_false c12
              clear c12
              by_cases c13 : (rd (rd_L1 l0 x7_1) x8_2) ≥ (l0.length : Int)
              ·rw [if_pos c13] at H
               have c13b0 : decide ((l0.length : Int) ≤ (rd (rd_L1 l0 x7_1) x8_2)) = true := decide_eq_true c13
               clear c13
               obtain rfl := Option.some.inj H
               have p584 : 0 ≤ (x7_1 : Int) := of_decide_eq_true (by (with_reducible assumption))
               have q584 : x7_1 < (l0.length : Int) := of_decide_eq_true (by (with_reducible assumption))
               obtain ⟨ad584, A584_0, c584_0, e584, hx584_0, hl584_0, hi584_0⟩ := at_L1 HR0.out x7_1 p584 q584
               obtain rfl : ad583 = ad584 := (by injection e584)
               have HR584_0 := Aside0.mk hi584_0
               have HC584_0 := Aside0.mk hl584_0
               clear hi584_0 hl584_0
               replace p584 := eq_true p584
               replace q584 := eq_true q584
               have p585 : 0 ≤ (x8_2 : Int) := of_decide_eq_true (by (with_reducible assumption))
               have q585 : x8_2 < ((rd_L1 l0 x7_1).length : Int) := of_decide_eq_true (by (with_reducible assumption))
               obtain ⟨ad585, e585, hx585_0⟩ := Kd.at_int HR584_0.out x8_2 p585 q585
               cases e585
               replace p585 := eq_true p585
               replace q585 := eq_true q585
               have p586 : 0 ≤ (x7_1 : Int) := of_decide_eq_true (by (with_reducible assumption))
               have q586 : x7_1 < (l0.length : Int) := of_decide_eq_true (by (with_reducible assumption))
               obtain ⟨ad586, A586_0, c586_0, e586, hx586_0, hl586_0, hi586_0⟩ := at_L1 HR0.out x7_1 p586 q586
               obtain rfl : ad583 = ad586 := (by injection e586)
               have HR586_0 := Aside0.mk hi586_0
               have HC586_0 := Aside0.mk hl586_0
               clear hi586_0 hl586_0
               replace p586 := eq_true p586
               replace q586 := eq_true q586
               have ea_ := Option.some.inj (hx584_0.symm.trans hx586_0)
               injection ea_ with ea_ en_ ec_
               subst ea_
               subst ec_
               clear en_
               have p587 : 0 ≤ (x8_2 : Int) := of_decide_eq_true (by (with_reducible assumption))
               have q587 : x8_2 < ((rd_L1 l0 x7_1).length : Int) := of_decide_eq_true (by (with_reducible assumption))
               obtain ⟨ad587, e587, hx587_0⟩ := Kd.at_int HR586_0.out x8_2 p587 q587
               cases e587
               replace p587 := eq_true p587
               replace q587 := eq_true q587
               go_wp2
               go_ret
               exact ⟨by rfl, by repeat (first | exact Drawn0.refl _ | apply Drawn0.step)⟩
              ·rw [if_neg c13] at H
               have c13b0 : decide ((l0.length : Int) ≤ (rd (rd_L1 l0 x7_1) x8_2)) = false := decide_eq_false c13
               clear c13
               have H' := Aside0.mk H
               clear H
               have p584 : 0 ≤ (x7_1 : Int) := of_decide_eq_true (by (with_reducible assumption))
               have q584 : x7_1 < (l0.length : Int) := of_decide_eq_true (by (with_reducible assumption))
               obtain ⟨ad584, A584_0, c584_0, e584, hx584_0, hl584_0, hi584_0⟩ := at_L1 HR0.out x7_1 p584 q584
               obtain rfl : ad583 = ad584 := (by injection e584)
               have HR584_0 := Aside0.mk hi584_0
               have HC584_0 := Aside0.mk hl584_0
               clear hi584_0 hl584_0
               replace p584 := eq_true p584
               replace q584 := eq_true q584
               have p585 : 0 ≤ (x8_2 : Int) := of_decide_eq_true (by (with_reducible assumption))
               have q585 : x8_2 < ((rd_L1 l0 x7_1).length : Int) := of_decide_eq_true (by (with_reducible assumption))
               obtain ⟨ad585, e585, hx585_0⟩ := Kd.at_int HR584_0.out x8_2 p585 q585
               cases e585
               replace p585 := eq_true p585
               replace q585 := eq_true q585
               have p586 : 0 ≤ (x7_1 : Int) := of_decide_eq_true (by (with_reducible assumption))
               have q586 : x7_1 < (l0.length : Int) := of_decide_eq_true (by (with_reducible assumption))
               obtain ⟨ad586, A586_0, c586_0, e586, hx586_0, hl586_0, hi586_0⟩ := at_L1 HR0.out x7_1 p586 q586
               obtain rfl : ad583 = ad586 := (by injection e586)
               have HR586_0 := Aside0.mk hi586_0
               have HC586_0 := Aside0.mk hl586_0
               clear hi586_0 hl586_0
               replace p586 := eq_true p586
               replace q586 := eq_true q586
               have ea_ := Option.some.inj (hx584_0.symm.trans hx586_0)
               injection ea_ with ea_ en_ ec_
               subst ea_
               subst ec_
               clear en_
               have p587 : 0 ≤ (x8_2 : Int) := of_decide_eq_true (by (with_reducible assumption))
               have q587 : x8_2 < ((rd_L1 l0 x7_1).length : Int) := of_decide_eq_true (by (with_reducible assumption))
               obtain ⟨ad587, e587, hx587_0⟩ := Kd.at_int HR586_0.out x8_2 p587 q587
               cases e587
               replace p587 := eq_true p587
               replace q587 := eq_true q587
               go_wp2
               go_roundg k2
               case measure => have := HK1.out; have := HK2.out; omega
               case rel => exact ⟨(wrap64 (x8_2 + 1)), (by rfl), H', ⟨by have := HK1.out; have := HK2.out; omega⟩, by repeat (first | exact Drawn0.refl _ | apply Drawn0.step)⟩
            ·rw [if_neg c11] at H
             exact absurd H (by simp)
           ·rw [if_neg c10] at H
            exact absurd H (by simp)
          ·rw [if_neg c9] at H
           exact absurd H (by simp)
         ·rw [if_neg c8] at H
          exact absurd H (by simp)
        ·rw [if_neg c7] at H
         have c7b0 : decide (x8_2 < a2) = false := decide_eq_false c7
         clear c7
         have H' := Aside0.mk H
         clear H
         go_wp2
         go_roundg k2
         case measure => have := HK1.out; have := HK2.out; omega
         case rel => exact ⟨(wrap64 (x7_1 + 1)), (by rfl), H', ⟨by have := HK1.out; have := HK2.out; omega⟩, by repeat (first | exact Drawn0.refl _ | apply Drawn0.step)⟩
     ·rw [if_neg c6] at H
      have c6b0 : (((rd_L1 l0 x7_1).length : Int) == a2) = false := beq_eq_false_iff_ne.mpr c6
      have c6b1 : (((rd_L1 l0 x7_1).length : Int) != a2) = true := bne_iff_ne.mpr c6
      obtain rfl := Option.some.inj H
      have p583 : 0 ≤ (x7_1 : Int) := of_decide_eq_true (by (with_reducible assumption))
      have q583 : x7_1 < (l0.length : Int) := of_decide_eq_true (by (with_reducible assumption))
      obtain ⟨ad583, A583_0, c583_0, e583, hx583_0, hl583_0, hi583_0⟩ := at_L1 HR0.out x7_1 p583 q583
      cases e583
      have HR583_0 := Aside0.mk hi583_0
      have HC583_0 := Aside0.mk hl583_0
      clear hi583_0 hl583_0
      replace p583 := eq_true p583
      replace q583 := eq_true q583
      go_wp2
      go_ret
      exact ⟨by rfl, by repeat (first | exact Drawn0.refl _ | apply Drawn0.step)⟩
    ·rw [if_neg c5] at H
     exact absurd H (by simp)
   ·rw [if_neg c4] at H
    have c4b0 : decide (x7_1 < (l0.length : Int)) = false := decide_eq_false c4
    clear c4
    by_cases c14 : (l0.length : Int) > 0
    ·rw [if_pos c14] at H
     have c14b0 : decide (0 < (l0.length : Int)) = true := decide_eq_true c14
     have c14b1 : decide (0 < l0.length) = true := decide_eq_true (by omega)
     clear c14
     obtain rfl := Option.some.inj H
     go_wp2
     go_ret
     exact ⟨by rfl, by repeat (first | exact Drawn0.refl _ | apply Drawn0.step)⟩
    ·rw [if_neg c14] at H
     have c14b0 : decide (0 < (l0.length : Int)) = false := decide_eq_false c14
     have c14b1 : decide (0 < l0.length) = false := decide_eq_false (by omega)
     clear c14
     obtain rfl := Option.some.inj H
     go_wp2
     go_ret
     exact ⟨by rfl, by repeat (first | exact Drawn0.refl _ | apply Drawn0.step)⟩
end Go.Proofs.YthpnipdoehbiaaaDoor.Pr
