/- Go functions as Lean functions, with contracts. -/
import Derived.Test.YthpnipdoehbiaaaDoorRSm
import Derived.Test.YthpnipdoehbiaaaDoorRPr10
namespace Go.Proofs.YthpnipdoehbiaaaDoor.Pr
open Go.RowKit Go.Proofs.YthpnipdoehbiaaaDoorW.PrintWords Go.Proofs.YthpnipdoehbiaaaDoorW.PrintLast Go.Proofs.YthpnipdoehbiaaaDoorW.PrintMore
attribute [local go_sem] jF jD jQ jO jx jw jG jE
set_option linter.unusedVariables false
set_option linter.unusedSimpArgs false
mutual
def Zl.l0 : Nat → List (List Int) → List Int → List Int → Int → Option (List Int × List Int × (List (List Int)))
 | 0, _, _, _, _ => none
 | k + 1, x0, x1, x7, x8 => if x8 < (x0.length : Int) then (if 0 ≤ x8 then (if x8 < (x7.length : Int) then (Zl.l0 k x0 x1 (x7.set (x8 : Int).toNat (-1)) (wrap64 (x8 + 1))) else (none)) else (none)) else ((jj.f k x1 x7 0 0).bind fun ze => (Zl.l1 k x0 x1 ze (([0] : List Int)) ([] : List (List Int)) 0))
def Zl.l1 : Nat → List (List Int) → List Int → List Int → List Int → List (List Int) → Int → Option (List Int × List Int × (List (List Int)))
 | 0, _, _, _, _, _, _ => none
 | k + 1, x0, x1, x7, x9, x10, x11 => if x11 < (x9.length : Int) then (Zl.l2 k x0 x1 x7 x9 x10 x11 ([] : List Int) 0) else (some (x7, x9, x10))
def Zl.l2 : Nat → List (List Int) → List Int → List Int → List Int → List (List Int) → Int → List Int → Int → Option (List Int × List Int × (List (List Int)))
 | 0, _, _, _, _, _, _, _, _ => none
 | k + 1, x0, x1, x7, x9, x10, x11, x12, x13 => if 0 ≤ x11 then (if x11 < (x9.length : Int) then (if 0 ≤ (rd x9 x11) then (if (rd x9 x11) < (x0.length : Int) then (if x13 < ((Z3 x0 (rd x9 x11)).length : Int) then (if 0 ≤ x13 then (if 0 ≤ (rd (Z3 x0 (rd x9 x11)) x13) then (if (rd (Z3 x0 (rd x9 x11)) x13) < (x7.length : Int) then (if (rd x7 (rd (Z3 x0 (rd x9 x11)) x13)) < 0 then ((jj.f k x1 x7 (rd (Z3 x0 (rd x9 x11)) x13) (x9.length : Int)).bind fun z6 => (if x9.length < 17592186044416 then (if x12.length < 17592186044416 then (Zl.l2 k x0 x1 z6 (x9 ++ [rd (Z3 x0 (rd x9 x11)) x13]) x10 x11 (x12 ++ [rd z6 (rd (Z3 x0 (rd x9 x11)) x13)]) (wrap64 (x13 + 1))) else (none)) else (none))) else (if x12.length < 17592186044416 then (Zl.l2 k x0 x1 x7 x9 x10 x11 (x12 ++ [rd x7 (rd (Z3 x0 (rd x9 x11)) x13)]) (wrap64 (x13 + 1))) else (none))) else (none)) else (none)) else (none)) else (if x10.length < 5864062014805 then (Zl.l1 k x0 x1 x7 x9 (x10 ++ [x12]) (wrap64 (x11 + 1))) else (none))) else (none)) else (none)) else (none)) else (none)
end
def Zl.f (k : Nat) (l0 : List (List Int)) (l1 : List Int) : Option (List Int × List Int × (List (List Int))) := if 0 ≤ (l0.length : Int) then (if ((l0.length : Int) : Int).toNat ≤ 35184372088832 then (Zl.l0 k l0 l1 (List.replicate ((l0.length : Int) : Int).toNat 0) 0) else (none)) else (none)
set_option maxHeartbeats 8000000 in
set_option maxRecDepth 100000 in
theorem Zl.calls (k : Nat) (A0 : Option Addr) (c0 : Nat) (l0 : List (List Int)) (A1 : Option Addr) (c1 : Nat) (l1 : List Int) (r1 : List Int) (r2 : List Int) (r3 : List (List Int)) (w : World) (hr0 : Kd.C (Kd.slice 3 (Kd.int .i64)) w A0 l0.length l0) (hc0 : l0.length ≤ c0) (hr1 : Kd.C (Kd.int .i64) w A1 l1.length l1) (hc1 : l1.length ≤ c1) (h : Zl.f k l0 l1 = some (r1, r2, r3)) :
  Calls Tryd.prog 34 #[.slice A0 l0.length c0, .slice A1 l1.length c1] w fun e w' => ∃ v0_ v1_ v2_ : Value, e = .returned (.tuple #[v0_, v1_, v2_]) ∧ Kd.R (Kd.int .i64) 3 w' w.heap.size (fun k_ => some k_ ≠ (v1_ : Value).ownBlock) v0_ r1 ∧ Kd.R (Kd.int .i64) 3 w' w.heap.size (fun k_ => some k_ ≠ (v0_ : Value).ownBlock) v1_ r2 ∧ Kd.S (Kd.slice 3 (Kd.int .i64)) 22 w' w.heap.size (fun k_ => some k_ ≠ (v0_ : Value).ownBlock ∧ some k_ ≠ (v1_ : Value).ownBlock) v2_ r3 ∧ Below w.heap.size w w' := by
 have HR0 := Z0.mk hr0
 have HC0 := Z0.mk hc0
 clear hr0 hc0
 have HR1 := Z0.mk hr1
 have HC1 := Z0.mk hc1
 clear hr1 hc1
 have HB := Z0.mk (Below.refl w.heap.size w)
 have H : (if 0 ≤ (l0.length : Int) then (if ((l0.length : Int) : Int).toNat ≤ 35184372088832 then (Zl.l0 k l0 l1 (List.replicate ((l0.length : Int) : Int).toNat 0) 0) else (none)) else (none)) = some (r1, r2, r3) := h
 clear h
 by_cases c3 : 0 ≤ (l0.length : Int)
 rotate_left
 ·rw [if_neg c3] at H
  exact absurd H (by simp)
 rw [if_pos c3] at H
 have c3b0 := eq_true c3
 have c3b1 : decide (0 ≤ (l0.length : Int)) = true := decide_eq_true c3
 clear c3
 by_cases c4 : ((l0.length : Int) : Int).toNat ≤ 35184372088832
 rotate_left
 ·rw [if_neg c4] at H
  exact absurd H (by simp)
 rw [if_pos c4] at H
 have c4b0 := eq_true c4
 have c4b1 : decide (((l0.length : Int) : Int).toNat ≤ 35184372088832) = true := decide_eq_true c4
 clear c4
 obtain ⟨zW, zw⟩ : ∃ y_ : List Int, y_ = (List.replicate ((l0.length : Int) : Int).toNat 0) := ⟨_, rfl⟩
 replace H : (Zl.l0 k l0 l1 zW 0) = some (r1, r2, r3) := by (rw [zw]; with_reducible exact H)
 have y4 := Z0.mk zw
 clear zw
 have H' := Z0.mk H
 clear H
 go_enter Tryd.func34, Tryd.ntmps34
 go_wp2_with (((with_reducible refine ZI (N := 17) rfl ?_); refine Kd.zcv (Kd.int .i64) _ 3 rfl (N := 17) rfl 22 _ _ rfl (l0.length : Int) rfl rfl Tryd.underlying22 (.int .i64 0) 8 JD rfl (by decide) (by omega) 0 (ok := fun _ => True) (okp := fun _ => True) rfl (fun _ hk => hk) trivial (of_decide_eq_true (by (with_reducible assumption))) (Nat.le_trans (Nat.mul_le_mul_right _ (of_decide_eq_true (by (with_reducible assumption)) : (l0.length : Int).toNat ≤ 35184372088832)) (by omega)) (Below.refl _ _) (Nat.le_refl _) ?_; intro yi w5 ho6 hb hg_ hnew_; clear hg_ hnew_; (rw [← y4.out] at ho6); have n0_ := Z0.mk (Kd.ZL ho6 (Z4 HB.out)); have n1_ := Z0.mk (Z9 HB.out hb); clear HB; have y5 := n0_; have HB := n1_; clear n0_ n1_; clear hb ho6))
 go_loopg [8] k (fun kq v8 w' => ∃ (x7_1 : List Int) (x8_1 : Int), v8 = .int .i64 x8_1 ∧ Z0 (Zl.l0 kq l0 l1 x7_1 x8_1 = some (r1, r2, r3)) ∧ Z0 (kq ≤ k) ∧ Z0 (Kd.R (Kd.int .i64) 3 w' w.heap.size (fun _ => True) yi x7_1) ∧ Z0 (Below w.heap.size w w'))
 case atStart => exact ⟨(zW), (0), (by rfl), H', ⟨Nat.le_refl _⟩, ⟨y5.out⟩, ⟨HB.out⟩⟩
 case round =>
  clear H'
  clear c3b0 c3b1 c4b0 c4b1
  obtain ⟨x7_1, x8_1, rfl, HA, HK1, HO_7, HB⟩ := hrel
  cases gk with
  | zero => exact absurd HA.out (by simp [Zl.l0])
  | succ k1 =>
   have H := HA.out
   clear HA
   simp only [Zl.l0] at H
   by_cases c7 : x8_1 < (l0.length : Int)
   rotate_left
   ·rw [if_neg c7] at H
    have c7b0 : decide (x8_1 < (l0.length : Int)) = false := decide_eq_false c7
    clear c7
    obtain ⟨zH, zx⟩ : ∃ y_ : List Int, y_ = (([0] : List Int)) := ⟨_, rfl⟩
    replace H : ((jj.f k1 l1 x7_1 0 0).bind fun ze => (Zl.l1 k1 l0 l1 ze zH ([] : List (List Int)) 0)) = some (r1, r2, r3) := by (rw [zx]; with_reducible exact H)
    have y6 := Z0.mk zx
    clear zx
    replace H := Option.bind_eq_some_iff.mp H
    obtain ⟨ze, zX, H⟩ := H
    replace H : (Zl.l1 k1 l0 l1 ze zH ([] : List (List Int)) 0) = some (r1, r2, r3) := H
    have A13 := Z0.mk zX
    clear zX
    have H' := Z0.mk H
    clear H
    go_wp2_with (first | ((with_reducible refine ZI (N := 27) rfl ?_); refine Kd.JL (Kd.int .i64) _ 3 ?hg (N := 27) ?hd (xs := ([0] : List Int)) (inner := [.int .i64 0]) (ok := fun _ => True) (okp := fun _ => True) ?hr ?hp (fun _ hk => hk) trivial (Below.refl _ _) (Nat.le_refl _) (by simp) ?_; (case hd => rfl); (case hg => rfl); (case hr => (go_simp; done)); (case hp => exact (ZH.one (show Kd.M (Kd.int .i64) _ _ _ 0 [.int .i64 0] from rfl) (ZH.none _ _))); intro v332 w14 ho15 hb hg_ hnew_; clear hg_ hnew_; (rw [← y6.out] at ho15); have n0_ := Z0.mk (Kd.ZJ (HO_7.out) (Kd.Zn ho15) hb); have n1_ := Z0.mk (Kd.ZL (Kd.ZO ho15 (Kd.Zv (HO_7.out))) (Z4 HB.out)); have n2_ := Z0.mk (Z9 HB.out hb); clear HO_7; clear HB; have HO_7 := n0_; have zp := n1_; have HB := n2_; clear n0_ n1_ n2_; clear hb ho15; obtain ⟨Ao16, co16, eo16⟩ := Kd.Zu HO_7.out; subst eo16) | ((with_reducible refine je (f := 45) rfl ?_); refine jT (some 30) rfl rfl Tryd.func45 (by kernel_rfl) rfl #[.slice A1 l1.length c1, .slice Ao16 x7_1.length co16, .int .i64 0, .int .i64 0] rfl (by (try simp only [List.map_toArray, List.map_cons, List.map_nil]); rfl) ?_; (with_reducible refine (jj.calls k1 _ _ l1 (fun k_ => some k_ = (.slice Ao16 x7_1.length co16 : Value).ownBlock) (.slice Ao16 x7_1.length co16) x7_1 0 0 ze w _ ?side1 ?side2 ?side3 ?side4 A13.out).mono ?_); (case side1 => repeat ((with_reducible exact HB.out))); (case side2 => exact Kd.zeg (Kd.zgr .i64) HR1.out HB.out (fun k_ hs_ => (fun e_ => Kd.Zn HO_7.out k_ e_.symm) hs_)); (case side3 => exact HC1.out); (case side4 => exact Kd.JO rfl HO_7.out); rintro e w17 ⟨rfl, hy0, hb, hkp⟩; refine ⟨_, rfl, ?_⟩; have n0_ := Z0.mk (Kd.R_reok rfl hy0 (fun k_ e_ => HO_7.out.1 k_ e_)); have n1_ := Z0.mk (Kd.Z8 (ok' := fun k_ => some k_ ≠ (.slice Ao16 x7_1.length co16 : Value).ownBlock) (Kd.zfa (zp.out) hkp (fun k_ hk_ hs_ => (hk_.2) hs_)) (fun k_ hk_ => hk_.1.2)); have n2_ := Z0.mk (hb); clear HO_7; clear zp; clear HB; have HO_7 := n0_; have zp := n1_; have HB := n2_; clear n0_ n1_ n2_; (try clear hb); (try clear hkp); (try clear hy0)))
    go_loopg [9, 10, 11] k1 (fun kq v9 v10 v11 w' => ∃ (x7_2 : List Int) (x9_2 : List Int) (x10_2 : List (List Int)) (x11_2 : Int), v11 = .int .i64 x11_2 ∧ Z0 (Zl.l1 kq l0 l1 x7_2 x9_2 x10_2 x11_2 = some (r1, r2, r3)) ∧ Z0 (kq ≤ k1) ∧ Z0 (Kd.R (Kd.int .i64) 3 w' w.heap.size (fun k_ => some k_ ≠ (v9 : Value).ownBlock) (.slice Ao16 x7_1.length co16) x7_2) ∧ Z0 (Kd.R (Kd.int .i64) 3 w' w.heap.size (fun k_ => some k_ ≠ ((.slice Ao16 x7_1.length co16) : Value).ownBlock) v9 x9_2) ∧ Z0 (Kd.S (Kd.slice 3 (Kd.int .i64)) 22 w' w.heap.size (fun k_ => some k_ ≠ ((.slice Ao16 x7_1.length co16) : Value).ownBlock ∧ some k_ ≠ (v9 : Value).ownBlock) v10 x10_2) ∧ Z0 (Below w.heap.size w w'))
    case atStart => exact ⟨(ze), (zH), (([] : List (List Int))), (0), (by rfl), H', ⟨Nat.le_refl _⟩, ⟨Kd.Z8 HO_7.out (fun _ hk => hk.2)⟩, ⟨zp.out⟩, ⟨Kd.zd2 _ _ _ _ _⟩, ⟨HB.out⟩⟩
    case round =>
     clear H'
     clear c7b0
     obtain ⟨x7_2, x9_2, x10_2, x11_2, rfl, HA, HK2, HO_7, HO_9, HO_10, HB⟩ := hrel
     have hl7_2 := (Kd.Ze HO_7.out).1
     rw [hl7_2] at HO_7
     (try simp only [hl7_2])
     (try simp only [hl7_2] at HO_9)
     (try simp only [hl7_2] at HO_10)
     cases gk with
     | zero => exact absurd HA.out (by simp [Zl.l1])
     | succ k2 =>
      have H := HA.out
      clear HA
      simp only [Zl.l1] at H
      by_cases c18 : x11_2 < (x9_2.length : Int)
      rotate_left
      ·rw [if_neg c18] at H
       have c18b0 : decide (x11_2 < (x9_2.length : Int)) = false := decide_eq_false c18
       clear c18
       simp only [Option.some.injEq, Prod.mk.injEq] at H
       obtain ⟨rfl, rfl, rfl⟩ := H
       obtain ⟨Ao43, co43, eo43⟩ := Kd.Zu HO_9.out
       subst eo43
       go_wp2
       go_ret3
       exact ⟨_, _, _, by rfl, HO_7.out, HO_9.out, HO_10.out, HB.out⟩
      rw [if_pos c18] at H
      have c18b0 : decide (x11_2 < (x9_2.length : Int)) = true := decide_eq_true c18
      clear c18
      have H' := Z0.mk H
      clear H
      obtain ⟨Ao19, co19, eo19⟩ := Kd.Zu HO_9.out
      subst eo19
      go_wp2
      go_loopg [9, 12, 13] k2 (fun kq v9 v12 v13 w' => ∃ (x7_3 : List Int) (x9_3 : List Int) (x12_3 : List Int) (x13_3 : Int), v13 = .int .i64 x13_3 ∧ Z0 (Zl.l2 kq l0 l1 x7_3 x9_3 x10_2 x11_2 x12_3 x13_3 = some (r1, r2, r3)) ∧ Z0 (kq ≤ k2) ∧ Z0 (Kd.R (Kd.int .i64) 3 w' w.heap.size (fun k_ => some k_ ≠ (v9 : Value).ownBlock ∧ some k_ ≠ (v12 : Value).ownBlock) (.slice Ao16 x7_2.length co16) x7_3) ∧ Z0 (Kd.R (Kd.int .i64) 3 w' w.heap.size (fun k_ => some k_ ≠ ((.slice Ao16 x7_2.length co16) : Value).ownBlock ∧ some k_ ≠ (v12 : Value).ownBlock) v9 x9_3) ∧ Z0 (Kd.S (Kd.slice 3 (Kd.int .i64)) 22 w' w.heap.size (fun k_ => some k_ ≠ ((.slice Ao16 x7_2.length co16) : Value).ownBlock ∧ some k_ ≠ (v9 : Value).ownBlock ∧ some k_ ≠ (v12 : Value).ownBlock) u10 x10_2) ∧ Z0 (Kd.R (Kd.int .i64) 3 w' w.heap.size (fun k_ => some k_ ≠ ((.slice Ao16 x7_2.length co16) : Value).ownBlock ∧ some k_ ≠ (v9 : Value).ownBlock) v12 x12_3) ∧ Z0 (Below w.heap.size w w'))
      case atStart => exact ⟨(x7_2), (x9_2), (([] : List Int)), (0), (by rfl), H', ⟨Nat.le_refl _⟩, ⟨by (try simp only [hl7_2]); exact Kd.Z8 HO_7.out (fun _ hk => ⟨hk, (by simp [Value.ownBlock])⟩)⟩, ⟨by (try simp only [hl7_2]); exact Kd.Z8 HO_9.out (fun _ hk => ⟨hk, (by simp [Value.ownBlock])⟩)⟩, ⟨by (try simp only [hl7_2]); exact Kd.ZG HO_10.out (fun _ hk => ⟨hk.1, ⟨hk.2, (by simp [Value.ownBlock])⟩⟩)⟩, ⟨by (try simp only [hl7_2]); exact Kd.JT _ _ _ _ _⟩, ⟨HB.out⟩⟩
      case round =>
       clear H'
       clear c18b0
       obtain ⟨x7_3, x9_3, x12_3, x13_3, rfl, HA, HK3, HO_7, HO_9, HO_10, HO_12, HB⟩ := hrel
       have hl7_3 := (Kd.Ze HO_7.out).1
       rw [hl7_3] at HO_7
       (try simp only [hl7_3])
       (try simp only [hl7_3] at HO_9)
       (try simp only [hl7_3] at HO_10)
       (try simp only [hl7_3] at HO_12)
       cases gk with
       | zero => exact absurd HA.out (by simp [Zl.l2])
       | succ k3 =>
        have H := HA.out
        clear HA
        simp only [Zl.l2] at H
        by_cases c20 : 0 ≤ x11_2
        rotate_left
        ·rw [if_neg c20] at H
         exact absurd H (by simp)
        rw [if_pos c20] at H
        have c20b0 : decide (0 ≤ x11_2) = true := decide_eq_true c20
        clear c20
        by_cases c21 : x11_2 < (x9_3.length : Int)
        rotate_left
        ·rw [if_neg c21] at H
         exact absurd H (by simp)
        rw [if_pos c21] at H
        have c21b0 : decide (x11_2 < (x9_3.length : Int)) = true := decide_eq_true c21
        clear c21
        by_cases c22 : 0 ≤ (rd x9_3 x11_2)
        rotate_left
        ·rw [if_neg c22] at H
         exact absurd H (by simp)
        rw [if_pos c22] at H
        have c22b0 : decide (0 ≤ (rd x9_3 x11_2)) = true := decide_eq_true c22
        clear c22
        by_cases c23 : (rd x9_3 x11_2) < (l0.length : Int)
        rotate_left
        ·rw [if_neg c23] at H
         exact absurd H (by simp)
        rw [if_pos c23] at H
        have c23b0 : decide ((rd x9_3 x11_2) < (l0.length : Int)) = true := decide_eq_true c23
        clear c23
        by_cases c24 : x13_3 < ((Z3 l0 (rd x9_3 x11_2)).length : Int)
        rotate_left
        ·rw [if_neg c24] at H
         have c24b0 : decide (x13_3 < ((Z3 l0 (rd x9_3 x11_2)).length : Int)) = false := decide_eq_false c24
         clear c24
         by_cases c39 : x10_2.length < 5864062014805
         rotate_left
         ·rw [if_neg c39] at H
          exact absurd H (by simp)
         rw [if_pos c39] at H
         have LMc39 := Z0.mk c39
         clear c39
         obtain ⟨zY, zy⟩ : ∃ y_ : List (List Int), y_ = (x10_2 ++ [x12_3]) := ⟨_, rfl⟩
         replace H : (Zl.l1 k3 l0 l1 x7_3 x9_3 zY (wrap64 (x11_2 + 1))) = some (r1, r2, r3) := by (rw [zy]; with_reducible exact H)
         have y7 := Z0.mk zy
         clear zy
         have H' := Z0.mk H
         clear H
         obtain ⟨Ao40, co40, eo40⟩ := Kd.Zu HO_9.out
         subst eo40
         have z8 : 0 ≤ (x11_2 : Int) := of_decide_eq_true (by (with_reducible assumption))
         have z9 : x11_2 < (x9_3.length : Int) := of_decide_eq_true (by (with_reducible assumption))
         obtain ⟨z2, zr, zt⟩ := Kd.ZD (Kd.Ze HO_9.out).2.2 x11_2 z8 z9
         cases zr
         replace z8 := eq_true z8
         replace z9 := eq_true z9
         have za : 0 ≤ ((rd x9_3 x11_2) : Int) := of_decide_eq_true (by (with_reducible assumption))
         have zb : (rd x9_3 x11_2) < (l0.length : Int) := of_decide_eq_true (by (with_reducible assumption))
         obtain ⟨zq, zF, zG, zs, z0, z4, z5⟩ := jZ HR0.out (rd x9_3 x11_2) za zb
         cases zs
         replace z0 := (HB.out.cell (World.block_lt_of_cell? w _ z0)).trans z0
         have zu := Z0.mk z5
         have zv := Z0.mk z4
         clear z5 z4
         replace za := eq_true za
         replace zb := eq_true zb
         obtain ⟨Ao42, co42, eo42⟩ := Kd.Zu HO_12.out
         subst eo42
         go_wp2_with (((with_reducible refine jn (b := .append) (xs := #[.tmp 81, .tmp 83]) rfl ?_); at_builtin; refine Kd.zga (Kd.slice 3 (Kd.int .i64)) (w0 := w) w.heap.size rfl (.tmp 81) (.tmp 83) 24 22 (.slice none 0 0) 24 rfl Tryd.underlying24 zbx rfl (by decide) (by omega) u10 x10_2 x12_3 [.slice Ao42 x12_3.length co42] (fun k_ => some k_ ≠ (.slice Ao16 x7_3.length co16 : Value).ownBlock ∧ some k_ ≠ (.slice (some z2) x9_3.length co40 : Value).ownBlock) (fun k_ => some k_ = (.slice Ao42 x12_3.length co42 : Value).ownBlock) rfl rfl ?aP (fun k_ hk_ => ((Kd.Z8 (ok' := fun k_ => ((fun k_ => some k_ ≠ (.slice Ao16 x7_3.length co16 : Value).ownBlock ∧ some k_ ≠ (.slice (some z2) x9_3.length co40 : Value).ownBlock)) k_ ∧ some k_ ≠ (u10 : Value).ownBlock) (Kd.ZM (HO_12.out) (Kd.jg HO_10.out) (by decide)) (fun k_ hk => ⟨⟨hk.1.1, hk.1.2⟩, hk.2⟩))).1 k_ hk_.symm) ?aF ?aO ?aB ?aS ?aL ?_; (case aP => exact Kd.ze3 (Kd.Z8 (Kd.JO rfl (Kd.Z8 (ok' := fun k_ => ((fun k_ => some k_ ≠ (.slice Ao16 x7_3.length co16 : Value).ownBlock ∧ some k_ ≠ (.slice (some z2) x9_3.length co40 : Value).ownBlock)) k_ ∧ some k_ ≠ (u10 : Value).ownBlock) (Kd.ZM (HO_12.out) (Kd.jg HO_10.out) (by decide)) (fun k_ hk => ⟨⟨hk.1.1, hk.1.2⟩, hk.2⟩))) (fun _ h_ => h_))); (case aB => exact HB.out); (case aF => exact (fun k_ hk => ⟨Kd.ZK (Kd.Zv (HO_7.out)) k_ hk, Kd.ZK (Kd.Zv (HO_9.out)) k_ hk⟩)); (case aO => exact (Kd.ZG HO_10.out (fun k_ hk => ⟨⟨hk.1, hk.2.1⟩, fun e_ => hk.2.2 e_⟩))); (case aS => exact (Z4 HB.out)); (case aL => have := LMc39.out; omega); intro v354 w41 ho hb hg hat; rw [← y7.out] at ho; have n0_ := Z0.mk (Kd.J4 (HO_7.out) (Kd.jg (HO_10.out)) (by decide) hg); have n1_ := Z0.mk (Kd.J4 (HO_9.out) (Kd.jg (HO_10.out)) (by decide) hg); have n2_ := Z0.mk (hb); have n3_ := Z0.mk (ho); clear HO_7; clear HO_9; clear HB; clear HO_10; clear HO_12; have HO_7 := n0_; have HO_9 := n1_; have HB := n2_; have y8 := n3_; clear n0_ n1_ n2_ n3_; clear ho hb hg hat))
         (try simp only [← hl7_2, ← hl7_3])
         go_roundg k3
         case measure => have := HK1.out; have := HK2.out; have := HK3.out; omega
         case rel => exact ⟨(x7_3), (x9_3), (zY), (wrap64 (x11_2 + 1)), (by rfl), H', ⟨by have := HK1.out; have := HK2.out; have := HK3.out; omega⟩, ⟨by (try simp only [hl7_2]); (try simp only [hl7_3]); exact Kd.Z8 HO_7.out (fun _ hk => hk.1)⟩, ⟨by (try simp only [hl7_2]); (try simp only [hl7_3]); exact Kd.Z8 HO_9.out (fun _ hk => hk.1)⟩, ⟨by (try simp only [hl7_2]); (try simp only [hl7_3]); exact y8.out⟩, ⟨HB.out⟩⟩
        rw [if_pos c24] at H
        have c24b0 : decide (x13_3 < ((Z3 l0 (rd x9_3 x11_2)).length : Int)) = true := decide_eq_true c24
        clear c24
        by_cases c25 : 0 ≤ x13_3
        rotate_left
        ·rw [if_neg c25] at H
         exact absurd H (by simp)
        rw [if_pos c25] at H
        have c25b0 : decide (0 ≤ x13_3) = true := decide_eq_true c25
        clear c25
        by_cases c26 : 0 ≤ (rd (Z3 l0 (rd x9_3 x11_2)) x13_3)
        rotate_left
        ·rw [if_neg c26] at H
         exact absurd H (by simp)
        rw [if_pos c26] at H
        have c26b0 : decide (0 ≤ (rd (Z3 l0 (rd x9_3 x11_2)) x13_3)) = true := decide_eq_true c26
        clear c26
        by_cases c27 : (rd (Z3 l0 (rd x9_3 x11_2)) x13_3) < (x7_3.length : Int)
        rotate_left
        ·rw [if_neg c27] at H
         exact absurd H (by simp)
        rw [if_pos c27] at H
        have c27b0 : decide ((rd (Z3 l0 (rd x9_3 x11_2)) x13_3) < (x7_3.length : Int)) = true := decide_eq_true c27
        clear c27
        by_cases c28 : (rd x7_3 (rd (Z3 l0 (rd x9_3 x11_2)) x13_3)) < 0
        rotate_left
        ·rw [if_neg c28] at H
         have c28b0 : decide ((rd x7_3 (rd (Z3 l0 (rd x9_3 x11_2)) x13_3)) < 0) = false := decide_eq_false c28
         clear c28
         by_cases c36 : x12_3.length < 17592186044416
         rotate_left
         ·rw [if_neg c36] at H
          exact absurd H (by simp)
         rw [if_pos c36] at H
         have LMc36 := Z0.mk c36
         clear c36
         obtain ⟨zZ, zz⟩ : ∃ y_ : List Int, y_ = (x12_3 ++ [rd x7_3 (rd (Z3 l0 (rd x9_3 x11_2)) x13_3)]) := ⟨_, rfl⟩
         replace H : (Zl.l2 k3 l0 l1 x7_3 x9_3 x10_2 x11_2 zZ (wrap64 (x13_3 + 1))) = some (r1, r2, r3) := by (rw [zz]; with_reducible exact H)
         have y9 := Z0.mk zz
         clear zz
         have H' := Z0.mk H
         clear H
         obtain ⟨Ao37, co37, eo37⟩ := Kd.Zu HO_9.out
         subst eo37
         have z8 : 0 ≤ (x11_2 : Int) := of_decide_eq_true (by (with_reducible assumption))
         have z9 : x11_2 < (x9_3.length : Int) := of_decide_eq_true (by (with_reducible assumption))
         obtain ⟨z2, zr, zt⟩ := Kd.ZD (Kd.Ze HO_9.out).2.2 x11_2 z8 z9
         cases zr
         replace z8 := eq_true z8
         replace z9 := eq_true z9
         have za : 0 ≤ ((rd x9_3 x11_2) : Int) := of_decide_eq_true (by (with_reducible assumption))
         have zb : (rd x9_3 x11_2) < (l0.length : Int) := of_decide_eq_true (by (with_reducible assumption))
         obtain ⟨zq, zF, zG, zs, z0, z4, z5⟩ := jZ HR0.out (rd x9_3 x11_2) za zb
         cases zs
         replace z0 := (HB.out.cell (World.block_lt_of_cell? w _ z0)).trans z0
         have zu := Z0.mk z5
         have zv := Z0.mk z4
         clear z5 z4
         replace za := eq_true za
         replace zb := eq_true zb
         have zf : 0 ≤ (x11_2 : Int) := of_decide_eq_true (by (with_reducible assumption))
         have zg : x11_2 < (x9_3.length : Int) := of_decide_eq_true (by (with_reducible assumption))
         obtain ⟨zA, zI, zT⟩ := Kd.ZD (Kd.Ze HO_9.out).2.2 x11_2 zf zg
         obtain rfl : z2 = zA := (by injection zI)
         replace zf := eq_true zf
         replace zg := eq_true zg
         have zh : 0 ≤ ((rd x9_3 x11_2) : Int) := of_decide_eq_true (by (with_reducible assumption))
         have zi : (rd x9_3 x11_2) < (l0.length : Int) := of_decide_eq_true (by (with_reducible assumption))
         obtain ⟨zB, y0, y1, zJ, z3, zc, zd⟩ := jZ HR0.out (rd x9_3 x11_2) zh zi
         obtain rfl : zq = zB := (by injection zJ)
         replace z3 := (HB.out.cell (World.block_lt_of_cell? w _ z3)).trans z3
         have zo := Z0.mk zd
         have zU := Z0.mk zc
         clear zd zc
         replace zh := eq_true zh
         replace zi := eq_true zi
         have ea_ := Option.some.inj (z0.symm.trans z3)
         injection ea_ with ea_ en_ ec_
         subst ea_
         subst ec_
         clear en_
         have zj : 0 ≤ (x13_3 : Int) := of_decide_eq_true (by (with_reducible assumption))
         have zk : x13_3 < ((Z3 l0 (rd x9_3 x11_2)).length : Int) := of_decide_eq_true (by (with_reducible assumption))
         obtain ⟨ya, zK, z7⟩ := Kd.ZD zo.out x13_3 zj zk
         cases zK
         replace z7 := (HB.out.cell (World.block_lt_of_cell? w _ z7)).trans z7
         replace zj := eq_true zj
         replace zk := eq_true zk
         have zl : 0 ≤ ((rd (Z3 l0 (rd x9_3 x11_2)) x13_3) : Int) := of_decide_eq_true (by (with_reducible assumption))
         have zm : (rd (Z3 l0 (rd x9_3 x11_2)) x13_3) < (x7_3.length : Int) := of_decide_eq_true (by (with_reducible assumption))
         obtain ⟨z1, zL, zV⟩ := Kd.ZD (Kd.Ze HO_7.out).2.2 (rd (Z3 l0 (rd x9_3 x11_2)) x13_3) zl zm
         cases zL
         replace zl := eq_true zl
         replace zm := eq_true zm
         have zM : 0 ≤ ((rd (Z3 l0 (rd x9_3 x11_2)) x13_3) : Int) := of_decide_eq_true (by (with_reducible assumption))
         have zN : (rd (Z3 l0 (rd x9_3 x11_2)) x13_3) < (x7_3.length : Int) := of_decide_eq_true (by (with_reducible assumption))
         obtain ⟨yb, yj, yl⟩ := Kd.ZD (Kd.Ze HO_7.out).2.2 (rd (Z3 l0 (rd x9_3 x11_2)) x13_3) zM zN
         obtain rfl : z1 = yb := (by injection yj)
         replace zM := eq_true zM
         replace zN := eq_true zN
         go_wp2_with (((with_reducible refine jn (b := .append) (xs := #[.tmp 74, .tmp 79]) rfl ?_); at_builtin; refine Kd.Jc (Kd.int .i64) (w0 := w) w.heap.size rfl (.tmp 74) (.tmp 79) 22 3 (.int .i64 0) 8 rfl Tryd.underlying22 JD rfl (by decide) (by omega) u12 x12_3 (rd x7_3 (rd (Z3 l0 (rd x9_3 x11_2)) x13_3)) [.int .i64 (rd x7_3 (rd (Z3 l0 (rd x9_3 x11_2)) x13_3))] (fun k_ => some k_ ≠ (.slice (some z1) x7_3.length co16 : Value).ownBlock ∧ some k_ ≠ (.slice (some z2) x9_3.length co37 : Value).ownBlock) (fun _ => False) rfl rfl ?aP (fun _ hk => hk.elim) ?aF ?aO ?aB ?aS ?aL ?_; (case aP => exact rfl); (case aB => exact HB.out); (case aF => exact (fun k_ hk => ⟨Kd.ZK (Kd.Zv (HO_7.out)) k_ hk, Kd.ZK (Kd.Zv (HO_9.out)) k_ hk⟩)); (case aO => exact (HO_12.out)); (case aS => exact (Z4 HB.out)); (case aL => have := LMc36.out; omega); intro v351 w38 ho hb hg hat; rw [← y9.out] at ho; have n0_ := Z0.mk (Kd.jV (ok := (fun k_ => some k_ ≠ (.slice (some z2) x9_3.length co37 : Value).ownBlock)) (HO_7.out) hg hat); have n1_ := Z0.mk (Kd.jV (ok := (fun k_ => some k_ ≠ (.slice (some z1) x7_3.length co16 : Value).ownBlock)) (HO_9.out) hg hat); have n2_ := Z0.mk (Kd.zab (ok := (fun k_ => some k_ ≠ (.slice (some z1) x7_3.length co16 : Value).ownBlock ∧ some k_ ≠ (.slice (some z2) x9_3.length co37 : Value).ownBlock)) (Kd.ZG HO_10.out (fun _ hk => ⟨⟨hk.1, hk.2.1⟩, hk.2.2⟩)) hg hat); have n3_ := Z0.mk (hb); have n4_ := Z0.mk (ho); clear HO_7; clear HO_9; clear HO_10; clear HB; clear HO_12; have HO_7 := n0_; have HO_9 := n1_; have HO_10 := n2_; have HB := n3_; have yc := n4_; clear n0_ n1_ n2_ n3_ n4_; clear ho hb hg hat))
         (try simp only [← hl7_3])
         go_roundg k3
         case measure => have := HK1.out; have := HK2.out; have := HK3.out; omega
         case rel => exact ⟨(x7_3), (x9_3), (zZ), (wrap64 (x13_3 + 1)), (by rfl), H', ⟨by have := HK1.out; have := HK2.out; have := HK3.out; omega⟩, ⟨by (try simp only [hl7_2]); (try simp only [hl7_3]); exact HO_7.out⟩, ⟨by (try simp only [hl7_2]); (try simp only [hl7_3]); exact HO_9.out⟩, ⟨by (try simp only [hl7_2]); (try simp only [hl7_3]); exact Kd.ZG HO_10.out (fun _ hk => ⟨hk.1.1, ⟨hk.1.2, hk.2⟩⟩)⟩, ⟨by (try simp only [hl7_2]); (try simp only [hl7_3]); exact yc.out⟩, ⟨HB.out⟩⟩
        rw [if_pos c28] at H
        have c28b0 : decide ((rd x7_3 (rd (Z3 l0 (rd x9_3 x11_2)) x13_3)) < 0) = true := decide_eq_true c28
        clear c28
        replace H := Option.bind_eq_some_iff.mp H
        obtain ⟨z6, y2, H⟩ := H
        replace H : (if x9_3.length < 17592186044416 then (if x12_3.length < 17592186044416 then (Zl.l2 k3 l0 l1 z6 (x9_3 ++ [rd (Z3 l0 (rd x9_3 x11_2)) x13_3]) x10_2 x11_2 (x12_3 ++ [rd z6 (rd (Z3 l0 (rd x9_3 x11_2)) x13_3)]) (wrap64 (x13_3 + 1))) else (none)) else (none)) = some (r1, r2, r3) := H
        have A29 := Z0.mk y2
        clear y2
        by_cases c30 : x9_3.length < 17592186044416
        rotate_left
        ·rw [if_neg c30] at H
         exact absurd H (by simp)
        rw [if_pos c30] at H
        have LMc30 := Z0.mk c30
        clear c30
        obtain ⟨zO, zC⟩ : ∃ y_ : List Int, y_ = (x9_3 ++ [rd (Z3 l0 (rd x9_3 x11_2)) x13_3]) := ⟨_, rfl⟩
        replace H : (if x12_3.length < 17592186044416 then (Zl.l2 k3 l0 l1 z6 zO x10_2 x11_2 (x12_3 ++ [rd z6 (rd (Z3 l0 (rd x9_3 x11_2)) x13_3)]) (wrap64 (x13_3 + 1))) else (none)) = some (r1, r2, r3) := by (rw [zC]; with_reducible exact H)
        have yd := Z0.mk zC
        clear zC
        by_cases c31 : x12_3.length < 17592186044416
        rotate_left
        ·rw [if_neg c31] at H
         exact absurd H (by simp)
        rw [if_pos c31] at H
        have LMc31 := Z0.mk c31
        clear c31
        obtain ⟨y3, zD⟩ : ∃ y_ : List Int, y_ = (x12_3 ++ [rd z6 (rd (Z3 l0 (rd x9_3 x11_2)) x13_3)]) := ⟨_, rfl⟩
        replace H : (Zl.l2 k3 l0 l1 z6 zO x10_2 x11_2 y3 (wrap64 (x13_3 + 1))) = some (r1, r2, r3) := by (rw [zD]; with_reducible exact H)
        have ye := Z0.mk zD
        clear zD
        have H' := Z0.mk H
        clear H
        obtain ⟨Ao32, co32, eo32⟩ := Kd.Zu HO_9.out
        subst eo32
        have z8 : 0 ≤ (x11_2 : Int) := of_decide_eq_true (by (with_reducible assumption))
        have z9 : x11_2 < (x9_3.length : Int) := of_decide_eq_true (by (with_reducible assumption))
        obtain ⟨z2, zr, zt⟩ := Kd.ZD (Kd.Ze HO_9.out).2.2 x11_2 z8 z9
        cases zr
        replace z8 := eq_true z8
        replace z9 := eq_true z9
        have za : 0 ≤ ((rd x9_3 x11_2) : Int) := of_decide_eq_true (by (with_reducible assumption))
        have zb : (rd x9_3 x11_2) < (l0.length : Int) := of_decide_eq_true (by (with_reducible assumption))
        obtain ⟨zq, zF, zG, zs, z0, z4, z5⟩ := jZ HR0.out (rd x9_3 x11_2) za zb
        cases zs
        replace z0 := (HB.out.cell (World.block_lt_of_cell? w _ z0)).trans z0
        have zu := Z0.mk z5
        have zv := Z0.mk z4
        clear z5 z4
        replace za := eq_true za
        replace zb := eq_true zb
        have zf : 0 ≤ (x11_2 : Int) := of_decide_eq_true (by (with_reducible assumption))
        have zg : x11_2 < (x9_3.length : Int) := of_decide_eq_true (by (with_reducible assumption))
        obtain ⟨zA, zI, zT⟩ := Kd.ZD (Kd.Ze HO_9.out).2.2 x11_2 zf zg
        obtain rfl : z2 = zA := (by injection zI)
        replace zf := eq_true zf
        replace zg := eq_true zg
        have zh : 0 ≤ ((rd x9_3 x11_2) : Int) := of_decide_eq_true (by (with_reducible assumption))
        have zi : (rd x9_3 x11_2) < (l0.length : Int) := of_decide_eq_true (by (with_reducible assumption))
        obtain ⟨zB, y0, y1, zJ, z3, zc, zd⟩ := jZ HR0.out (rd x9_3 x11_2) zh zi
        obtain rfl : zq = zB := (by injection zJ)
        replace z3 := (HB.out.cell (World.block_lt_of_cell? w _ z3)).trans z3
        have zo := Z0.mk zd
        have zU := Z0.mk zc
        clear zd zc
        replace zh := eq_true zh
        replace zi := eq_true zi
        have ea_ := Option.some.inj (z0.symm.trans z3)
        injection ea_ with ea_ en_ ec_
        subst ea_
        subst ec_
        clear en_
        have zj : 0 ≤ (x13_3 : Int) := of_decide_eq_true (by (with_reducible assumption))
        have zk : x13_3 < ((Z3 l0 (rd x9_3 x11_2)).length : Int) := of_decide_eq_true (by (with_reducible assumption))
        obtain ⟨ya, zK, z7⟩ := Kd.ZD zo.out x13_3 zj zk
        cases zK
        replace z7 := (HB.out.cell (World.block_lt_of_cell? w _ z7)).trans z7
        replace zj := eq_true zj
        replace zk := eq_true zk
        have zl : 0 ≤ ((rd (Z3 l0 (rd x9_3 x11_2)) x13_3) : Int) := of_decide_eq_true (by (with_reducible assumption))
        have zm : (rd (Z3 l0 (rd x9_3 x11_2)) x13_3) < (x7_3.length : Int) := of_decide_eq_true (by (with_reducible assumption))
        obtain ⟨z1, zL, zV⟩ := Kd.ZD (Kd.Ze HO_7.out).2.2 (rd (Z3 l0 (rd x9_3 x11_2)) x13_3) zl zm
        cases zL
        replace zl := eq_true zl
        replace zm := eq_true zm
        go_wp2_with (first | ((with_reducible refine je (f := 45) rfl ?_); refine jT (some 69) rfl rfl Tryd.func45 (by kernel_rfl) rfl #[.slice A1 l1.length c1, .slice (some z1) x7_3.length co16, .int .i64 (rd (Z3 l0 (rd x9_3 x11_2)) x13_3), .int .i64 (x9_3.length : Int)] rfl (by (try simp only [List.map_toArray, List.map_cons, List.map_nil]); rfl) ?_; (with_reducible refine (jj.calls k3 _ _ l1 (fun k_ => some k_ = (.slice (some z1) x7_3.length co16 : Value).ownBlock) (.slice (some z1) x7_3.length co16) x7_3 (rd (Z3 l0 (rd x9_3 x11_2)) x13_3) (x9_3.length : Int) z6 w _ ?side1 ?side2 ?side3 ?side4 A29.out).mono ?_); (case side1 => repeat ((with_reducible exact HB.out))); (case side2 => exact Kd.zeg (Kd.zgr .i64) HR1.out HB.out (fun k_ hs_ => (fun e_ => Kd.Zn HO_7.out k_ e_.symm) hs_)); (case side3 => exact HC1.out); (case side4 => exact Kd.JO rfl HO_7.out); rintro e w33 ⟨rfl, hy0, hb, hkp⟩; refine ⟨_, rfl, ?_⟩; have n0_ := Z0.mk (Kd.R_reok rfl hy0 (fun k_ e_ => HO_7.out.1 k_ e_)); have n1_ := Z0.mk (Kd.Z8 (ok' := fun k_ => some k_ ≠ (.slice (some z1) x7_3.length co16 : Value).ownBlock ∧ some k_ ≠ (u12 : Value).ownBlock) (Kd.zfa (HO_9.out) hkp (fun k_ hk_ hs_ => (hk_.1) hs_)) (fun k_ hk_ => ⟨hk_.1.1, hk_.1.2⟩)); have n2_ := Z0.mk (Kd.ZG (ok' := fun k_ => some k_ ≠ (.slice (some z1) x7_3.length co16 : Value).ownBlock ∧ some k_ ≠ (.slice (some z2) x9_3.length co32 : Value).ownBlock ∧ some k_ ≠ (u12 : Value).ownBlock) (Kd.S_keptB (HO_10.out) hkp (fun k_ hk_ hs_ => (hk_.1) hs_)) (fun k_ hk_ => ⟨hk_.1.1, hk_.1.2.1, hk_.1.2.2⟩)); have n3_ := Z0.mk (Kd.Z8 (ok' := fun k_ => some k_ ≠ (.slice (some z1) x7_3.length co16 : Value).ownBlock ∧ some k_ ≠ (.slice (some z2) x9_3.length co32 : Value).ownBlock) (Kd.zfa (HO_12.out) hkp (fun k_ hk_ hs_ => (hk_.1) hs_)) (fun k_ hk_ => ⟨hk_.1.1, hk_.1.2⟩)); have n4_ := Z0.mk (hb); clear HO_7; clear HO_9; clear HO_10; clear HO_12; clear HB; have HO_7 := n0_; have HO_9 := n1_; have HO_10 := n2_; have HO_12 := n3_; have HB := n4_; clear n0_ n1_ n2_ n3_ n4_; (try clear hb); (try clear hkp); (try clear hy0)) | ((with_reducible refine jn (b := .append) (xs := #[.tmp 70, .tmp 72]) rfl ?_); at_builtin; refine Kd.Jc (Kd.int .i64) (w0 := w) w.heap.size rfl (.tmp 70) (.tmp 72) 22 3 (.int .i64 0) 8 rfl Tryd.underlying22 JD rfl (by decide) (by omega) (.slice (some z2) x9_3.length co32) x9_3 (rd (Z3 l0 (rd x9_3 x11_2)) x13_3) [.int .i64 (rd (Z3 l0 (rd x9_3 x11_2)) x13_3)] (fun k_ => some k_ ≠ (.slice (some z1) x7_3.length co16 : Value).ownBlock ∧ some k_ ≠ (u12 : Value).ownBlock) (fun _ => False) rfl rfl ?aP (fun _ hk => hk.elim) ?aF ?aO ?aB ?aS ?aL ?_; (case aP => exact rfl); (case aB => exact HB.out); (case aF => exact (fun k_ hk => ⟨Kd.ZK (Kd.Zv (HO_7.out)) k_ hk, Kd.ZK (Kd.Zv (HO_12.out)) k_ hk⟩)); (case aO => exact (HO_9.out)); (case aS => exact (Z4 HB.out)); (case aL => have := LMc30.out; omega); intro zP w34 ho hb hg hat; rw [← yd.out] at ho; have n0_ := Z0.mk (Kd.jV (ok := (fun k_ => some k_ ≠ (u12 : Value).ownBlock)) (Kd.Z8 HO_7.out (fun _ hk => ⟨hk.2, hk.1⟩)) hg hat); have n1_ := Z0.mk (Kd.zab (ok := (fun k_ => some k_ ≠ (.slice (some z1) x7_3.length co16 : Value).ownBlock ∧ some k_ ≠ (u12 : Value).ownBlock)) (Kd.ZG HO_10.out (fun _ hk => ⟨⟨hk.1, hk.2.2⟩, hk.2.1⟩)) hg hat); have n2_ := Z0.mk (Kd.jV (ok := (fun k_ => some k_ ≠ (.slice (some z1) x7_3.length co16 : Value).ownBlock)) (HO_12.out) hg hat); have n3_ := Z0.mk (hb); have n4_ := Z0.mk (ho); clear HO_7; clear HO_10; clear HO_12; clear HB; clear HO_9; have HO_7 := n0_; have HO_10 := n1_; have HO_12 := n2_; have HB := n3_; have zn := n4_; clear n0_ n1_ n2_ n3_ n4_; clear ho hb hg hat; have zQ : 0 ≤ ((rd (Z3 l0 (rd x9_3 x11_2)) x13_3) : Int) := of_decide_eq_true (by (with_reducible assumption)); have zR : (rd (Z3 l0 (rd x9_3 x11_2)) x13_3) < (z6.length : Int) := (by have h_ : ((rd (Z3 l0 (rd x9_3 x11_2)) x13_3) : Int) < ((x7_3.length : Int) : Int) := of_decide_eq_true (by (with_reducible assumption)); have e_ := (Kd.Ze HO_7.out).1; omega); have yn : (((rd (Z3 l0 (rd x9_3 x11_2)) x13_3) : Int) < ((x7_3.length : Int) : Int)) = True := eq_true (of_decide_eq_true (by (with_reducible assumption))); obtain ⟨yf, yk, ym⟩ := Kd.ZD (Kd.Ze HO_7.out).2.2 (rd (Z3 l0 (rd x9_3 x11_2)) x13_3) zQ zR; obtain rfl : z1 = yf := (by injection yk); replace zQ := eq_true zQ; replace zR := eq_true zR) | ((with_reducible refine jn (b := .append) (xs := #[.tmp 74, .tmp 79]) rfl ?_); at_builtin; refine Kd.Jc (Kd.int .i64) (w0 := w) w.heap.size rfl (.tmp 74) (.tmp 79) 22 3 (.int .i64 0) 8 rfl Tryd.underlying22 JD rfl (by decide) (by omega) u12 x12_3 (rd z6 (rd (Z3 l0 (rd x9_3 x11_2)) x13_3)) [.int .i64 (rd z6 (rd (Z3 l0 (rd x9_3 x11_2)) x13_3))] (fun k_ => some k_ ≠ (.slice (some z1) x7_3.length co16 : Value).ownBlock ∧ some k_ ≠ (zP : Value).ownBlock) (fun _ => False) rfl rfl ?aP (fun _ hk => hk.elim) ?aF ?aO ?aB ?aS ?aL ?_; (case aP => exact rfl); (case aB => exact HB.out); (case aF => exact (fun k_ hk => ⟨Kd.ZK (Kd.Zv (HO_7.out)) k_ hk, Kd.ZK (Kd.Zv (zn.out)) k_ hk⟩)); (case aO => exact (HO_12.out)); (case aS => exact (Z4 HB.out)); (case aL => have := LMc31.out; omega); intro v347 w35 ho hb hg hat; rw [← ye.out] at ho; have n0_ := Z0.mk (Kd.jV (ok := (fun k_ => some k_ ≠ (zP : Value).ownBlock)) (Kd.Z8 HO_7.out (fun _ hk => ⟨hk.2, hk.1⟩)) hg hat); have n1_ := Z0.mk (Kd.zab (ok := (fun k_ => some k_ ≠ (.slice (some z1) x7_3.length co16 : Value).ownBlock ∧ some k_ ≠ (zP : Value).ownBlock)) (Kd.ZG HO_10.out (fun _ hk => ⟨⟨hk.1.1, hk.2⟩, hk.1.2⟩)) hg hat); have n2_ := Z0.mk (Kd.jV (ok := (fun k_ => some k_ ≠ (.slice (some z1) x7_3.length co16 : Value).ownBlock)) (zn.out) hg hat); have n3_ := Z0.mk (hb); have n4_ := Z0.mk (ho); clear HO_7; clear HO_10; clear zn; clear HB; clear HO_12; have HO_7 := n0_; have HO_10 := n1_; have zn := n2_; have HB := n3_; have yg := n4_; clear n0_ n1_ n2_ n3_ n4_; clear ho hb hg hat))
        (try simp only [← hl7_3])
        go_roundg k3
        case measure => have := HK1.out; have := HK2.out; have := HK3.out; omega
        case rel => exact ⟨(z6), (zO), (y3), (wrap64 (x13_3 + 1)), (by rfl), H', ⟨by have := HK1.out; have := HK2.out; have := HK3.out; omega⟩, ⟨by (try simp only [hl7_2]); (try simp only [hl7_3]); exact HO_7.out⟩, ⟨by (try simp only [hl7_2]); (try simp only [hl7_3]); exact zn.out⟩, ⟨by (try simp only [hl7_2]); (try simp only [hl7_3]); exact Kd.ZG HO_10.out (fun _ hk => ⟨hk.1.1, ⟨hk.1.2, hk.2⟩⟩)⟩, ⟨by (try simp only [hl7_2]); (try simp only [hl7_3]); exact yg.out⟩, ⟨HB.out⟩⟩
   rw [if_pos c7] at H
   have c7b0 : decide (x8_1 < (l0.length : Int)) = true := decide_eq_true c7
   clear c7
   by_cases c8 : 0 ≤ x8_1
   rotate_left
   ·rw [if_neg c8] at H
    exact absurd H (by simp)
   rw [if_pos c8] at H
   have c8b0 : decide (0 ≤ x8_1) = true := decide_eq_true c8
   clear c8
   by_cases c9 : x8_1 < (x7_1.length : Int)
   rotate_left
   ·rw [if_neg c9] at H
    exact absurd H (by simp)
   rw [if_pos c9] at H
   have c9b0 : decide (x8_1 < (x7_1.length : Int)) = true := decide_eq_true c9
   clear c9
   obtain ⟨zS, zE⟩ : ∃ y_ : List Int, y_ = (x7_1.set (x8_1 : Int).toNat (-1)) := ⟨_, rfl⟩
   replace H : (Zl.l0 k1 l0 l1 zS (wrap64 (x8_1 + 1))) = some (r1, r2, r3) := by (rw [zE]; with_reducible exact H)
   have yh := Z0.mk zE
   clear zE
   have H' := Z0.mk H
   clear H
   have p10 : 0 ≤ (x8_1 : Int) := of_decide_eq_true (by (with_reducible assumption))
   have q10 : (x8_1 : Int) < ((x7_1.length : Int) : Int) := of_decide_eq_true (by (with_reducible assumption))
   obtain ⟨go10, co10, eo10, gb10, gl10, cl10, HG10⟩ := Kd.za6 HO_7.out (by omega)
   (cases eo10)
   have GB10 := Z0.mk gb10
   have GG10 := Z0.mk HG10
   clear gb10 gl10 HG10
   obtain ⟨hx10_0, hf10_0⟩ := Kd.J2 0 HO_7.out (x8_1 : Int) p10 q10
   replace p10 := eq_true p10
   replace q10 := eq_true q10
   have HP11 := Kd.Jk HO_7.out (x8_1 : Int) (-1)
   go_wp2_with (((with_reducible refine jI (t := 3) (p := 26) rfl ?_); refine jy (t := 3) (p := 26) (v := ?vo_w12) (w1 := (wr.setCell ⟨go10, (x8_1 : Int).toNat, none⟩ (.int .i64 (-1)))) ?hg ?ho ?hn ?hr ?_; (case ho => rfl); (case hg => rfl); (case hn => rfl); (case hr => (go_simp; done)); intro w12 hw; have hg : wr.grownBy w12 (some go10) := (by rw [hw]; exact HP11.2); have hp_ : Kd.R (Kd.int .i64) 3 w12 w.heap.size (fun _ => True) (.slice (some ⟨go10, 0, none⟩) x7_1.length co10) zS := (by rw [hw, yh.out]; exact HP11.1); clear HP11; have n0_ := Z0.mk (hp_); have n1_ := Z0.mk ((by rw [hw]; exact ZB HB.out GB10.out : Below w.heap.size w w12)); clear HO_7; clear HB; have HO_7 := n0_; have HB := n1_; clear n0_ n1_; clear hg hw hp_))
   go_roundg k1
   case measure => have := HK1.out; omega
   case rel => exact ⟨(zS), (wrap64 (x8_1 + 1)), (by rfl), H', ⟨by have := HK1.out; omega⟩, ⟨HO_7.out⟩, ⟨HB.out⟩⟩
end Go.Proofs.YthpnipdoehbiaaaDoor.Pr
