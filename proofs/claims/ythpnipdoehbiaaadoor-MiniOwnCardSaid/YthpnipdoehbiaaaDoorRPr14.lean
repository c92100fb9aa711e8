/- Go functions as Lean functions, with contracts. -/
import Derived.Test.YthpnipdoehbiaaaDoorRSm
import Derived.Test.YthpnipdoehbiaaaDoorRPr12
import Derived.Test.YthpnipdoehbiaaaDoorRPr13
namespace Go.Proofs.YthpnipdoehbiaaaDoor.Pr
open Go.RowKit Go.Proofs.YthpnipdoehbiaaaDoorW.PrintWords Go.Proofs.YthpnipdoehbiaaaDoorW.PrintLast Go.Proofs.YthpnipdoehbiaaaDoorW.PrintMore
attribute [local go_sem] jF jD jQ jO jx jw jG jE
set_option linter.unusedVariables false
set_option linter.unusedSimpArgs false
mutual
def Zc.l0 : Nat → List (List Int) → List Int → Option (List Int)
 | 0, _, _ => none
 | k + 1, x0, x5 => if 0 ≤ (x0.length : Int) then (if ((x0.length : Int) : Int).toNat ≤ 35184372088832 then (Zc.l1 k x0 x5 (List.replicate ((x0.length : Int) : Int).toNat 0) 0 0) else (none)) else (none)
def Zc.l1 : Nat → List (List Int) → List Int → List Int → Int → Int → Option (List Int)
 | 0, _, _, _, _, _ => none
 | k + 1, x0, x5, x6, x7, x8 => if x8 < (x0.length : Int) then (if 0 ≤ x8 then (if x8 < (x6.length : Int) then (Zc.l2 k x0 x5 (x6.set (x8 : Int).toNat (-1)) x7 x8 0) else (none)) else (none)) else ((Zz.f k x6 x5).bind fun zf => (if zf = true then (some x5) else (Zc.l0 k x0 x6)))
def Zc.l2 : Nat → List (List Int) → List Int → List Int → Int → Int → Int → Option (List Int)
 | 0, _, _, _, _, _, _ => none
 | k + 1, x0, x5, x6, x7, x8, x9 => if x9 < x8 then (if 0 ≤ x8 then (if x8 < (x6.length : Int) then (Zc.j3 k x0 x5 x6 x7 x8 x9 (decide ((rd x6 x8) < 0))) else (none)) else (none)) else (Zc.j3 k x0 x5 x6 x7 x8 x9 false)
def Zc.j3 : Nat → List (List Int) → List Int → List Int → Int → Int → Int → Bool → Option (List Int)
 | 0, _, _, _, _, _, _, _ => none
 | k + 1, x0, x5, x6, x7, x8, x9, x32 => if x32 = true then (if 0 ≤ x9 then (if x9 < (x5.length : Int) then (if 0 ≤ x8 then (if x8 < (x5.length : Int) then (if (rd x5 x9) = (rd x5 x8) then ((jo.f k x0 x5 x9 x8).bind fun zb => (if zb = true then (if x9 < (x6.length : Int) then (if x8 < (x6.length : Int) then (Zc.l2 k x0 x5 (x6.set (x8 : Int).toNat (rd x6 x9)) x7 x8 (wrap64 (x9 + 1))) else (none)) else (none)) else (Zc.l2 k x0 x5 x6 x7 x8 (wrap64 (x9 + 1))))) else (Zc.l2 k x0 x5 x6 x7 x8 (wrap64 (x9 + 1)))) else (none)) else (none)) else (none)) else (none)) else (if 0 ≤ x8 then (if x8 < (x6.length : Int) then (if (rd x6 x8) < 0 then (Zc.l1 k x0 x5 (x6.set (x8 : Int).toNat x7) (wrap64 (x7 + 1)) (wrap64 (x8 + 1))) else (Zc.l1 k x0 x5 x6 x7 (wrap64 (x8 + 1)))) else (none)) else (none))
end
def Zc.f (k : Nat) (l0 : List (List Int)) (l1 : List Int) : Option (List Int) := Zc.l0 k l0 l1
set_option maxHeartbeats 8000000 in
set_option maxRecDepth 100000 in
theorem Zc.calls (k : Nat) (A0 : Option Addr) (c0 : Nat) (l0 : List (List Int)) (P1_ : Nat → Prop) (A1 : Option Addr) (c1 : Nat) (l1 : List Int) (r : List Int) (w : World) (hr0 : Kd.C (Kd.slice 3 (Kd.int .i64)) w A0 l0.length l0) (hc0 : l0.length ≤ c0) (hs1 : Kd.V (Kd.int .i64) 3 w w.heap.size (fun k_ => P1_ k_) (.slice A1 l1.length c1) l1) (h : Zc.f k l0 l1 = some r) :
  Calls Tryd.prog 35 #[.slice A0 l0.length c0, .slice A1 l1.length c1] w fun e w' => ∃ v0_ : Value, e = .returned (v0_) ∧ Kd.V (Kd.int .i64) 3 w' w.heap.size (fun k_ => (P1_ k_ ∨ w.heap.size ≤ k_)) v0_ r ∧ Below w.heap.size w w' := by
 have HR0 := Z0.mk hr0
 have HC0 := Z0.mk hc0
 clear hr0 hc0
 have HO1 := Z0.mk (show Kd.V (Kd.int .i64) 3 w w.heap.size (fun k_ => (P1_ k_ ∨ w.heap.size ≤ k_)) (.slice A1 l1.length c1) l1 from Kd.zdr hs1 (fun k_ hk => .inl hk))
 have HB := Z0.mk (Below.refl w.heap.size w)
 have H : (Zc.l0 k l0 l1) = some r := h
 clear h
 have H' := Z0.mk H
 clear H
 go_enter Tryd.func35, Tryd.ntmps35
 go_wp2
 repeat (go_quiet (fail); try go_wp2)
 go_loopg [5] k (fun kq v5 w' => ∃ (x5_1 : List Int), Z0 (Zc.l0 kq l0 x5_1 = some r) ∧ Z0 (kq ≤ k) ∧ Z0 (Kd.V (Kd.int .i64) 3 w' w.heap.size (fun k_ => (P1_ k_ ∨ w.heap.size ≤ k_)) v5 x5_1) ∧ Z0 (Below w.heap.size w w'))
 case atStart => exact ⟨(l1), H', ⟨Nat.le_refl _⟩, ⟨HO1.out⟩, ⟨HB.out⟩⟩
 case round =>
  clear H'
  obtain ⟨x5_1, HA, HK1, HO_5, HB⟩ := hrel
  cases gk with
  | zero => exact absurd HA.out (by simp [Zc.l0])
  | succ k1 =>
   have H := HA.out
   clear HA
   simp only [Zc.l0] at H
   by_cases c3 : 0 ≤ (l0.length : Int)
   rotate_left
   ·rw [if_neg c3] at H
    exact absurd H (by simp)
   rw [if_pos c3] at H
   have c3b0 := eq_true c3
   have c3b1 : decide (0 ≤ (l0.length : Int)) = true := decide_eq_true c3
   clear c3
   by_cases c4 : ((l0.length : Int) : Int).toNat ≤ 35184372088832
   rotate_left
   ·rw [if_neg c4] at H
    exact absurd H (by simp)
   rw [if_pos c4] at H
   have c4b0 := eq_true c4
   have c4b1 : decide (((l0.length : Int) : Int).toNat ≤ 35184372088832) = true := decide_eq_true c4
   clear c4
   obtain ⟨zu, zg⟩ : ∃ y_ : List Int, y_ = (List.replicate ((l0.length : Int) : Int).toNat 0) := ⟨_, rfl⟩
   replace H : (Zc.l1 k1 l0 x5_1 zu 0 0) = some r := by (rw [zg]; with_reducible exact H)
   have zy := Z0.mk zg
   clear zg
   have H' := Z0.mk H
   clear H
   go_wp2_with (((with_reducible refine ZI (N := 13) rfl ?_); refine Kd.zcv (Kd.int .i64) _ 3 rfl (N := 13) rfl 22 _ _ rfl (l0.length : Int) rfl rfl Tryd.underlying22 (.int .i64 0) 8 JD rfl (by decide) (by omega) 0 (ok := fun _ => True) (okp := fun _ => True) rfl (fun _ hk => hk) trivial (of_decide_eq_true (by (with_reducible assumption))) (Nat.le_trans (Nat.mul_le_mul_right _ (of_decide_eq_true (by (with_reducible assumption)) : (l0.length : Int).toNat ≤ 35184372088832)) (by omega)) (Below.refl _ _) (Nat.le_refl _) ?_; intro zv w5 ho6 hb hg_ hnew_; clear hg_ hnew_; (rw [← zy.out] at ho6); have n0_ := Z0.mk (Kd.zj4 (HO_5.out) (Kd.Zn ho6) hb); have n1_ := Z0.mk (Kd.ZL (Kd.zdt (M := fun k_ => (w.heap.size ≤ k_)) ho6 (Z4 HB.out) (fun k_ h_ => h_)) (Z4 HB.out)); have n2_ := Z0.mk (Z9 HB.out hb); clear HO_5; clear HB; have HO_5 := n0_; have zz := n1_; have HB := n2_; clear n0_ n1_ n2_; clear hb ho6))
   repeat (go_quiet (fail); try go_wp2_with (fail))
   go_loopg [7, 8] k1 (fun kq v7 v8 w' => ∃ (x6_2 : List Int) (x7_2 : Int) (x8_2 : Int), v7 = .int .i64 x7_2 ∧ v8 = .int .i64 x8_2 ∧ Z0 (Zc.l1 kq l0 x5_1 x6_2 x7_2 x8_2 = some r) ∧ Z0 (kq ≤ k1) ∧ Z0 (Kd.V (Kd.int .i64) 3 w' w.heap.size (fun k_ => (P1_ k_ ∨ w.heap.size ≤ k_) ∧ some k_ ≠ (zv : Value).ownBlock) u5 x5_1) ∧ Z0 (Kd.R (Kd.int .i64) 3 w' w.heap.size (fun k_ => (w.heap.size ≤ k_)) zv x6_2) ∧ Z0 (Below w.heap.size w w'))
   case atStart => exact ⟨(zu), (0), (0), (by rfl), (by rfl), H', ⟨Nat.le_refl _⟩, ⟨HO_5.out⟩, ⟨Kd.Z8 zz.out (fun _ hk => hk.1)⟩, ⟨HB.out⟩⟩
   case round =>
    clear H'
    clear c3b0 c3b1 c4b0 c4b1
    obtain ⟨x6_2, x7_2, x8_2, rfl, rfl, HA, HK2, HO_5, HO_6, HB⟩ := hrel
    cases gk with
    | zero => exact absurd HA.out (by simp [Zc.l1])
    | succ k2 =>
     have H := HA.out
     clear HA
     simp only [Zc.l1] at H
     by_cases c7 : x8_2 < (l0.length : Int)
     rotate_left
     ·rw [if_neg c7] at H
      have c7b0 : decide (x8_2 < (l0.length : Int)) = false := decide_eq_false c7
      clear c7
      replace H := Option.bind_eq_some_iff.mp H
      obtain ⟨zf, zw, H⟩ := H
      replace H : (if zf = true then (some x5_1) else (Zc.l0 k2 l0 x6_2)) = some r := H
      have A39 := Z0.mk zw
      clear zw
      by_cases c40 : zf = true
      rotate_left
      ·replace c40 := Bool.eq_false_iff.mpr c40
       subst c40
       have H1 : (Zc.l0 k2 l0 x6_2) = some r := by rw [if_neg (show ¬ (false = true) by decide)] at H; exact H
       clear H
       have H := H1
       clear H1
       have H' := Z0.mk H
       clear H
       obtain ⟨Ao43, co43, eo43⟩ := Kd.Zu HO_6.out
       subst eo43
       obtain ⟨Ao44, co44, eo44⟩ := Kd.zbq HO_5.out
       subst eo44
       go_wp2_with ((go_at_call 21; (with_reducible refine (Zz.calls k2 _ _ x6_2 _ _ x5_1 false _ ?side1 ?side2 ?side3 ?side4 A39.out).mono ?_); (case side1 => repeat (exact (Kd.Ze HO_6.out).2.2)); (case side2 => exact (Kd.Ze HO_6.out).2.1); (case side3 => repeat (exact (Kd.Jm HO_5.out).2.2)); (case side4 => exact (Kd.Jm HO_5.out).2.1); rintro e w' ⟨rfl, ⟨nd, rfl⟩⟩; (try fail)))
       repeat (go_quiet (fail); try go_wp2_with (fail))
       go_roundg k2
       case measure => have := HK1.out; have := HK2.out; omega
       case rel => exact ⟨(x6_2), H', ⟨by have := HK1.out; have := HK2.out; omega⟩, ⟨Kd.zdr (Kd.R_V (by (with_reducible repeat (apply Kd.zaq)); exact HO_6.out)) (fun k_ hk => by exact (.inr (hk)))⟩, ⟨by repeat ((with_reducible first | exact HB.out | apply ZW))⟩⟩
      subst c40
      have H1 : (some x5_1) = some r := by rw [if_pos rfl] at H; exact H
      clear H
      have H := H1
      clear H1
      obtain rfl := Option.some.inj H
      obtain ⟨Ao41, co41, eo41⟩ := Kd.Zu HO_6.out
      subst eo41
      obtain ⟨Ao42, co42, eo42⟩ := Kd.zbq HO_5.out
      subst eo42
      go_wp2_with ((go_at_call 21; (with_reducible refine (Zz.calls k2 _ _ x6_2 _ _ x5_1 true _ ?side1 ?side2 ?side3 ?side4 A39.out).mono ?_); (case side1 => repeat (exact (Kd.Ze HO_6.out).2.2)); (case side2 => exact (Kd.Ze HO_6.out).2.1); (case side3 => repeat (exact (Kd.Jm HO_5.out).2.2)); (case side4 => exact (Kd.Jm HO_5.out).2.1); rintro e w' ⟨rfl, ⟨nd, rfl⟩⟩; (try fail)))
      repeat (go_quiet (fail); try go_wp2_with (fail))
      go_ret
      exact ⟨_, by rfl, by (with_reducible repeat (apply Kd.ze1)); exact Kd.zdr HO_5.out (fun _ hk => hk.1), by repeat ((with_reducible first | exact HB.out | apply ZW))⟩
     rw [if_pos c7] at H
     have c7b0 : decide (x8_2 < (l0.length : Int)) = true := decide_eq_true c7
     clear c7
     by_cases c8 : 0 ≤ x8_2
     rotate_left
     ·rw [if_neg c8] at H
      exact absurd H (by simp)
     rw [if_pos c8] at H
     have c8b0 : decide (0 ≤ x8_2) = true := decide_eq_true c8
     clear c8
     by_cases c9 : x8_2 < (x6_2.length : Int)
     rotate_left
     ·rw [if_neg c9] at H
      exact absurd H (by simp)
     rw [if_pos c9] at H
     have c9b0 : decide (x8_2 < (x6_2.length : Int)) = true := decide_eq_true c9
     clear c9
     obtain ⟨zl, zh⟩ : ∃ y_ : List Int, y_ = (x6_2.set (x8_2 : Int).toNat (-1)) := ⟨_, rfl⟩
     replace H : (Zc.l2 k2 l0 x5_1 zl x7_2 x8_2 0) = some r := by (rw [zh]; with_reducible exact H)
     have zA := Z0.mk zh
     clear zh
     have H' := Z0.mk H
     clear H
     have p10 : 0 ≤ (x8_2 : Int) := of_decide_eq_true (by (with_reducible assumption))
     have q10 : (x8_2 : Int) < ((x6_2.length : Int) : Int) := of_decide_eq_true (by (with_reducible assumption))
     obtain ⟨go10, co10, eo10, gb10, gl10, cl10, HG10⟩ := Kd.za6 HO_6.out (by omega)
     (cases eo10)
     have GB10 := Z0.mk gb10
     have GG10 := Z0.mk HG10
     clear gb10 gl10 HG10
     obtain ⟨hx10_0, hf10_0⟩ := Kd.J2 0 HO_6.out (x8_2 : Int) p10 q10
     replace p10 := eq_true p10
     replace q10 := eq_true q10
     have HP11 := Kd.Jk HO_6.out (x8_2 : Int) (-1)
     go_wp2_with (((with_reducible refine jI (t := 3) (p := 22) rfl ?_); (try (rw [zaf wr]; generalize hq_ : World.drewN wr _ = wr; (try (have hx10_0 := JG hq_ hx10_0)); (try (have hf10_0 := zah hq_ hf10_0)); have n0_ := Z0.mk (zeo hq_ HO_5.out); have n1_ := Z0.mk (Kd.R_at hq_ HO_6.out); have n2_ := Z0.mk (zb7 hq_ HB.out); clear hq_ HO_5 HO_6 HB; have HO_5 := n0_; have HO_6 := n1_; have HB := n2_; clear n0_ n1_ n2_; (try (have HP11 := Kd.Jk HO_6.out (x8_2 : Int) (-1))))); refine jy (t := 3) (p := 22) (v := ?vo_w12) (w1 := (wr.setCell ⟨go10, (x8_2 : Int).toNat, none⟩ (.int .i64 (-1)))) ?hg ?ho ?hn ?hr ?_; (case ho => rfl); (case hg => rfl); (case hn => rfl); (case hr => (go_simp; done)); intro w12 hw; have hg : wr.grownBy w12 (some go10) := (by rw [hw]; exact HP11.2); have hp_ : Kd.R (Kd.int .i64) 3 w12 w.heap.size (fun k_ => (w.heap.size ≤ k_)) (.slice (some ⟨go10, 0, none⟩) x6_2.length co10) zl := (by rw [hw, zA.out]; exact HP11.1); clear HP11; have n0_ := Z0.mk (Kd.zem (v := (.slice (some ⟨go10, 0, none⟩) x6_2.length co10)) (v1 := (.slice (some ⟨go10, 0, none⟩) x6_2.length co10)) (ok := (fun k_ => (P1_ k_ ∨ w.heap.size ≤ k_))) (HO_5.out) hg (.inl rfl)); have n1_ := Z0.mk (hp_); have n2_ := Z0.mk ((by rw [hw]; exact ZB HB.out GB10.out : Below w.heap.size w w12)); clear HO_5; clear HO_6; clear HB; have HO_5 := n0_; have HO_6 := n1_; have HB := n2_; clear n0_ n1_ n2_; clear hg hw hp_))
     repeat (go_quiet (fail); try go_wp2_with (fail))
     go_loopg [9] k2 (fun kq v9 w' => ∃ (x6_3 : List Int) (x9_3 : Int), v9 = .int .i64 x9_3 ∧ Z0 (Zc.l2 kq l0 x5_1 x6_3 x7_2 x8_2 x9_3 = some r) ∧ Z0 (kq ≤ k2) ∧ Z0 (Kd.V (Kd.int .i64) 3 w' w.heap.size (fun k_ => (P1_ k_ ∨ w.heap.size ≤ k_) ∧ some k_ ≠ ((.slice (some ⟨go10, 0, none⟩) x6_2.length co10) : Value).ownBlock) u5 x5_1) ∧ Z0 (Kd.R (Kd.int .i64) 3 w' w.heap.size (fun k_ => (w.heap.size ≤ k_)) (.slice (some ⟨go10, 0, none⟩) x6_2.length co10) x6_3) ∧ Z0 (Below w.heap.size w w'))
     case atStart => exact ⟨(zl), (0), (by rfl), H', ⟨Nat.le_refl _⟩, ⟨HO_5.out⟩, ⟨HO_6.out⟩, ⟨HB.out⟩⟩
     case round =>
      clear H'
      clear c7b0 c8b0 c9b0 p10 q10 hx10_0
      obtain ⟨x6_3, x9_3, rfl, HA, HK3, HO_5, HO_6, HB⟩ := hrel
      have hl6_3 := (Kd.Ze HO_6.out).1
      rw [hl6_3] at HO_6
      (try simp only [hl6_3])
      (try simp only [hl6_3] at HO_5)
      cases gk with
      | zero => exact absurd HA.out (by simp [Zc.l2])
      | succ k3 =>
       have H := HA.out
       clear HA
       simp only [Zc.l2] at H
       have HC13 := Z0.mk H
       clear H
       go_upto_region 9 with (fail)
       repeat (go_quiet (fail); go_upto_region 9 with (fail))
       go_cut [32] (fun v32 wc => ∃ (kq : Nat) (x32_12 : Bool), v32 = .bool x32_12 ∧ Z0 (Zc.j3 kq l0 x5_1 x6_3 x7_2 x8_2 x9_3 x32_12 = some r) ∧ Z0 (kq ≤ k3) ∧ Z0 (Kd.V (Kd.int .i64) 3 wc w.heap.size (fun k_ => (P1_ k_ ∨ w.heap.size ≤ k_) ∧ some k_ ≠ ((.slice (some ⟨go10, 0, none⟩) x6_3.length co10) : Value).ownBlock) u5 x5_1) ∧ Z0 (Kd.R (Kd.int .i64) 3 wc w.heap.size (fun k_ => (w.heap.size ≤ k_)) (.slice (some ⟨go10, 0, none⟩) x6_3.length co10) x6_3) ∧ Z0 (Below w.heap.size w wc))
       case first =>
        have H := HC13.out
        clear HC13
        by_cases c14 : x9_3 < x8_2
        rotate_left
        ·rw [if_neg c14] at H
         have c14b0 : decide (x9_3 < x8_2) = false := decide_eq_false c14
         clear c14
         (skip)
         have H' := Z0.mk H
         clear H
         go_wp2
         repeat (go_quiet (fail); try go_wp2)
         go_meet
         case rel => exact ⟨_, (false), (by rfl), H', ⟨by have := HK1.out; have := HK2.out; have := HK3.out; omega⟩, ⟨by (try simp only [hl6_3]); exact HO_5.out⟩, ⟨by (try simp only [hl6_3]); exact HO_6.out⟩, ⟨HB.out⟩⟩
        rw [if_pos c14] at H
        have c14b0 : decide (x9_3 < x8_2) = true := decide_eq_true c14
        clear c14
        (skip)
        by_cases c15 : 0 ≤ x8_2
        rotate_left
        ·rw [if_neg c15] at H
         exact absurd H (by simp)
        rw [if_pos c15] at H
        have c15b0 : decide (0 ≤ x8_2) = true := decide_eq_true c15
        clear c15
        by_cases c16 : x8_2 < (x6_3.length : Int)
        rotate_left
        ·rw [if_neg c16] at H
         exact absurd H (by simp)
        rw [if_pos c16] at H
        have c16b0 : decide (x8_2 < (x6_3.length : Int)) = true := decide_eq_true c16
        clear c16
        have H' := Z0.mk H
        clear H
        have zm : 0 ≤ (x8_2 : Int) := of_decide_eq_true (by (with_reducible assumption))
        have zn : x8_2 < (x6_3.length : Int) := of_decide_eq_true (by (with_reducible assumption))
        obtain ⟨zB, zF, zt⟩ := Kd.ZD (Kd.Ze HO_6.out).2.2 x8_2 zm zn
        obtain rfl : (⟨go10, 0, none⟩ : Addr) = zB := (by injection zF)
        (simp only [add_plain] at zt)
        replace zm := eq_true zm
        replace zn := eq_true zn
        go_wp2
        repeat (go_quiet (fail); try go_wp2)
        go_meet
        case rel => exact ⟨_, (decide ((rd x6_3 x8_2) < 0)), (by rfl), H', ⟨by have := HK1.out; have := HK2.out; have := HK3.out; omega⟩, ⟨by (try simp only [hl6_3]); exact HO_5.out⟩, ⟨by (try simp only [hl6_3]); exact HO_6.out⟩, ⟨HB.out⟩⟩
       case rest =>
        clear HC13
        obtain ⟨kq, x32_12, rfl, HA, HJ12, HO_5, HO_6, HB⟩ := hcut
        cases kq with
        | zero => exact absurd HA.out (by simp [Zc.j3])
        | succ kj12 =>
         have H := HA.out
         clear HA
         simp only [Zc.j3] at H
         by_cases c17 : x32_12 = true
         rotate_left
         ·replace c17 := Bool.eq_false_iff.mpr c17
          subst c17
          have H1 : (if 0 ≤ x8_2 then (if x8_2 < (x6_3.length : Int) then (if (rd x6_3 x8_2) < 0 then (Zc.l1 kj12 l0 x5_1 (x6_3.set (x8_2 : Int).toNat x7_2) (wrap64 (x7_2 + 1)) (wrap64 (x8_2 + 1))) else (Zc.l1 kj12 l0 x5_1 x6_3 x7_2 (wrap64 (x8_2 + 1)))) else (none)) else (none)) = some r := by rw [if_neg (show ¬ (false = true) by decide)] at H; exact H
          clear H
          have H := H1
          clear H1
          by_cases c33 : 0 ≤ x8_2
          rotate_left
          ·rw [if_neg c33] at H
           exact absurd H (by simp)
          rw [if_pos c33] at H
          have c33b0 : decide (0 ≤ x8_2) = true := decide_eq_true c33
          clear c33
          by_cases c34 : x8_2 < (x6_3.length : Int)
          rotate_left
          ·rw [if_neg c34] at H
           exact absurd H (by simp)
          rw [if_pos c34] at H
          have c34b0 : decide (x8_2 < (x6_3.length : Int)) = true := decide_eq_true c34
          clear c34
          by_cases c35 : (rd x6_3 x8_2) < 0
          rotate_left
          ·rw [if_neg c35] at H
           have c35b0 : decide ((rd x6_3 x8_2) < 0) = false := decide_eq_false c35
           clear c35
           have H' := Z0.mk H
           clear H
           have z7 : 0 ≤ (x8_2 : Int) := of_decide_eq_true (by (with_reducible assumption))
           have z8 : x8_2 < (x6_3.length : Int) := of_decide_eq_true (by (with_reducible assumption))
           obtain ⟨zi, zo, z4⟩ := Kd.ZD (Kd.Ze HO_6.out).2.2 x8_2 z7 z8
           obtain rfl : (⟨go10, 0, none⟩ : Addr) = zi := (by injection zo)
           (simp only [add_plain] at z4)
           replace z7 := eq_true z7
           replace z8 := eq_true z8
           go_wp2
           repeat (go_quiet (fail); try go_wp2)
           (try simp only [← hl6_3])
           go_roundg kj12
           case measure => have := HK1.out; have := HK2.out; have := HK3.out; have := HJ12.out; omega
           case rel => exact ⟨(x6_3), (x7_2), (wrap64 (x8_2 + 1)), (by rfl), (by rfl), H', ⟨by have := HK1.out; have := HK2.out; have := HK3.out; have := HJ12.out; omega⟩, ⟨by (try simp only [hl6_3]); exact HO_5.out⟩, ⟨by (try simp only [hl6_3]); exact HO_6.out⟩, ⟨HB.out⟩⟩
          rw [if_pos c35] at H
          have c35b0 : decide ((rd x6_3 x8_2) < 0) = true := decide_eq_true c35
          clear c35
          obtain ⟨zp, zj⟩ : ∃ y_ : List Int, y_ = (x6_3.set (x8_2 : Int).toNat x7_2) := ⟨_, rfl⟩
          replace H : (Zc.l1 kj12 l0 x5_1 zp (wrap64 (x7_2 + 1)) (wrap64 (x8_2 + 1))) = some r := by (rw [zj]; with_reducible exact H)
          have zC := Z0.mk zj
          clear zj
          have H' := Z0.mk H
          clear H
          have z7 : 0 ≤ (x8_2 : Int) := of_decide_eq_true (by (with_reducible assumption))
          have z8 : x8_2 < (x6_3.length : Int) := of_decide_eq_true (by (with_reducible assumption))
          obtain ⟨zi, zo, z4⟩ := Kd.ZD (Kd.Ze HO_6.out).2.2 x8_2 z7 z8
          obtain rfl : (⟨go10, 0, none⟩ : Addr) = zi := (by injection zo)
          (simp only [add_plain] at z4)
          replace z7 := eq_true z7
          replace z8 := eq_true z8
          have p36 : 0 ≤ (x8_2 : Int) := of_decide_eq_true (by (with_reducible assumption))
          have q36 : (x8_2 : Int) < ((x6_3.length : Int) : Int) := of_decide_eq_true (by (with_reducible assumption))
          obtain ⟨hx36_0, hf36_0⟩ := Kd.J2 0 HO_6.out (x8_2 : Int) p36 q36
          replace p36 := eq_true p36
          replace q36 := eq_true q36
          have HP37 := Kd.Jk HO_6.out (x8_2 : Int) x7_2
          go_wp2_with (((with_reducible refine jI (t := 3) (p := 66) rfl ?_); (try (rw [zaf wc]; generalize hq_ : World.drewN wc _ = wc; (try (have hx36_0 := JG hq_ hx36_0)); (try (have hf36_0 := zah hq_ hf36_0)); (try (have z4 := JG hq_ z4)); have n0_ := Z0.mk (zeo hq_ HO_5.out); have n1_ := Z0.mk (Kd.R_at hq_ HO_6.out); have n2_ := Z0.mk (zb7 hq_ HB.out); clear hq_ HO_5 HO_6 HB; have HO_5 := n0_; have HO_6 := n1_; have HB := n2_; clear n0_ n1_ n2_; (try (have HP37 := Kd.Jk HO_6.out (x8_2 : Int) x7_2)))); refine jy (t := 3) (p := 66) (v := ?vo_w38) (w1 := (wc.setCell ⟨go10, (x8_2 : Int).toNat, none⟩ (.int .i64 x7_2))) ?hg ?ho ?hn ?hr ?_; (case ho => rfl); (case hg => rfl); (case hn => rfl); (case hr => (go_simp; done)); intro w38 hw; have hg : wc.grownBy w38 (some go10) := (by rw [hw]; exact HP37.2); have hp_ : Kd.R (Kd.int .i64) 3 w38 w.heap.size (fun k_ => (w.heap.size ≤ k_)) (.slice (some ⟨go10, 0, none⟩) x6_3.length co10) zp := (by rw [hw, zC.out]; exact HP37.1); clear HP37; have n0_ := Z0.mk (Kd.zem (v := (.slice (some ⟨go10, 0, none⟩) x6_3.length co10)) (v1 := (.slice (some ⟨go10, 0, none⟩) x6_3.length co10)) (ok := (fun k_ => (P1_ k_ ∨ w.heap.size ≤ k_))) (HO_5.out) hg (.inl rfl)); have n1_ := Z0.mk (hp_); have n2_ := Z0.mk ((by rw [hw]; exact ZB HB.out GB10.out : Below w.heap.size w w38)); clear HO_5; clear HO_6; clear HB; have HO_5 := n0_; have HO_6 := n1_; have HB := n2_; clear n0_ n1_ n2_; clear hg hw hp_))
          repeat (go_quiet (fail); try go_wp2_with (fail))
          (try simp only [← hl6_3])
          go_roundg kj12
          case measure => have := HK1.out; have := HK2.out; have := HK3.out; have := HJ12.out; omega
          case rel => exact ⟨(zp), (wrap64 (x7_2 + 1)), (wrap64 (x8_2 + 1)), (by rfl), (by rfl), H', ⟨by have := HK1.out; have := HK2.out; have := HK3.out; have := HJ12.out; omega⟩, ⟨by (try simp only [hl6_3]); exact HO_5.out⟩, ⟨by (try simp only [hl6_3]); exact HO_6.out⟩, ⟨HB.out⟩⟩
         subst c17
         have H1 : (if 0 ≤ x9_3 then (if x9_3 < (x5_1.length : Int) then (if 0 ≤ x8_2 then (if x8_2 < (x5_1.length : Int) then (if (rd x5_1 x9_3) = (rd x5_1 x8_2) then ((jo.f kj12 l0 x5_1 x9_3 x8_2).bind fun zb => (if zb = true then (if x9_3 < (x6_3.length : Int) then (if x8_2 < (x6_3.length : Int) then (Zc.l2 kj12 l0 x5_1 (x6_3.set (x8_2 : Int).toNat (rd x6_3 x9_3)) x7_2 x8_2 (wrap64 (x9_3 + 1))) else (none)) else (none)) else (Zc.l2 kj12 l0 x5_1 x6_3 x7_2 x8_2 (wrap64 (x9_3 + 1))))) else (Zc.l2 kj12 l0 x5_1 x6_3 x7_2 x8_2 (wrap64 (x9_3 + 1)))) else (none)) else (none)) else (none)) else (none)) = some r := by rw [if_pos rfl] at H; exact H
         clear H
         have H := H1
         clear H1
         by_cases c18 : 0 ≤ x9_3
         rotate_left
         ·rw [if_neg c18] at H
          exact absurd H (by simp)
         rw [if_pos c18] at H
         have c18b0 : decide (0 ≤ x9_3) = true := decide_eq_true c18
         clear c18
         by_cases c19 : x9_3 < (x5_1.length : Int)
         rotate_left
         ·rw [if_neg c19] at H
          exact absurd H (by simp)
         rw [if_pos c19] at H
         have c19b0 : decide (x9_3 < (x5_1.length : Int)) = true := decide_eq_true c19
         clear c19
         by_cases c20 : 0 ≤ x8_2
         rotate_left
         ·rw [if_neg c20] at H
          exact absurd H (by simp)
         rw [if_pos c20] at H
         have c20b0 : decide (0 ≤ x8_2) = true := decide_eq_true c20
         clear c20
         by_cases c21 : x8_2 < (x5_1.length : Int)
         rotate_left
         ·rw [if_neg c21] at H
          exact absurd H (by simp)
         rw [if_pos c21] at H
         have c21b0 : decide (x8_2 < (x5_1.length : Int)) = true := decide_eq_true c21
         clear c21
         by_cases c22 : (rd x5_1 x9_3) = (rd x5_1 x8_2)
         rotate_left
         ·rw [if_neg c22] at H
          have c22b0 : ((rd x5_1 x9_3) == (rd x5_1 x8_2)) = false := beq_eq_false_iff_ne.mpr c22
          have c22b1 : ((rd x5_1 x9_3) != (rd x5_1 x8_2)) = true := bne_iff_ne.mpr c22
          have H' := Z0.mk H
          clear H
          obtain ⟨Ao32, co32, eo32⟩ := Kd.zbq HO_5.out
          subst eo32
          have z0 : 0 ≤ (x9_3 : Int) := of_decide_eq_true (by (with_reducible assumption))
          have z1 : x9_3 < (x5_1.length : Int) := of_decide_eq_true (by (with_reducible assumption))
          obtain ⟨z9, zd, z5⟩ := Kd.ZD (Kd.Jm HO_5.out).2.2 x9_3 z0 z1
          cases zd
          replace z0 := eq_true z0
          replace z1 := eq_true z1
          have z2 : 0 ≤ (x8_2 : Int) := of_decide_eq_true (by (with_reducible assumption))
          have z3 : x8_2 < (x5_1.length : Int) := of_decide_eq_true (by (with_reducible assumption))
          obtain ⟨za, ze, z6⟩ := Kd.ZD (Kd.Jm HO_5.out).2.2 x8_2 z2 z3
          obtain rfl : z9 = za := (by injection ze)
          replace z2 := eq_true z2
          replace z3 := eq_true z3
          go_wp2
          repeat (go_quiet (fail); try go_wp2)
          (try simp only [← hl6_3])
          go_roundg kj12
          case measure => have := HK1.out; have := HK2.out; have := HK3.out; have := HJ12.out; omega
          case rel => exact ⟨(x6_3), (wrap64 (x9_3 + 1)), (by rfl), H', ⟨by have := HK1.out; have := HK2.out; have := HK3.out; have := HJ12.out; omega⟩, ⟨by (try simp only [hl6_3]); (with_reducible repeat (apply Kd.ze1)); exact HO_5.out⟩, ⟨by (try simp only [hl6_3]); (with_reducible repeat (apply Kd.zaq)); exact HO_6.out⟩, ⟨by repeat ((with_reducible first | exact HB.out | apply ZW))⟩⟩
         rw [if_pos c22] at H
         have c22b0 : ((rd x5_1 x9_3) == (rd x5_1 x8_2)) = true := beq_iff_eq.mpr c22
         have c22b1 : ((rd x5_1 x9_3) != (rd x5_1 x8_2)) = false := bne_eq_false_iff_eq.mpr c22
         clear c22
         replace H := Option.bind_eq_some_iff.mp H
         obtain ⟨zb, zx, H⟩ := H
         replace H : (if zb = true then (if x9_3 < (x6_3.length : Int) then (if x8_2 < (x6_3.length : Int) then (Zc.l2 kj12 l0 x5_1 (x6_3.set (x8_2 : Int).toNat (rd x6_3 x9_3)) x7_2 x8_2 (wrap64 (x9_3 + 1))) else (none)) else (none)) else (Zc.l2 kj12 l0 x5_1 x6_3 x7_2 x8_2 (wrap64 (x9_3 + 1)))) = some r := H
         have A23 := Z0.mk zx
         clear zx
         by_cases c24 : zb = true
         rotate_left
         ·replace c24 := Bool.eq_false_iff.mpr c24
          subst c24
          have H1 : (Zc.l2 kj12 l0 x5_1 x6_3 x7_2 x8_2 (wrap64 (x9_3 + 1))) = some r := by rw [if_neg (show ¬ (false = true) by decide)] at H; exact H
          clear H
          have H := H1
          clear H1
          have H' := Z0.mk H
          clear H
          obtain ⟨Ao31, co31, eo31⟩ := Kd.zbq HO_5.out
          subst eo31
          have z0 : 0 ≤ (x9_3 : Int) := of_decide_eq_true (by (with_reducible assumption))
          have z1 : x9_3 < (x5_1.length : Int) := of_decide_eq_true (by (with_reducible assumption))
          obtain ⟨z9, zd, z5⟩ := Kd.ZD (Kd.Jm HO_5.out).2.2 x9_3 z0 z1
          cases zd
          replace z0 := eq_true z0
          replace z1 := eq_true z1
          have z2 : 0 ≤ (x8_2 : Int) := of_decide_eq_true (by (with_reducible assumption))
          have z3 : x8_2 < (x5_1.length : Int) := of_decide_eq_true (by (with_reducible assumption))
          obtain ⟨za, ze, z6⟩ := Kd.ZD (Kd.Jm HO_5.out).2.2 x8_2 z2 z3
          obtain rfl : z9 = za := (by injection ze)
          replace z2 := eq_true z2
          replace z3 := eq_true z3
          go_wp2_with (fail)
          repeat (go_quiet ((go_at_call 46; (with_reducible refine (jo.calls kj12 _ _ l0 _ _ x5_1 x9_3 x8_2 false _ ?side1 ?side2 ?side3 ?side4 A23.out).mono ?_); (case side1 => repeat (first | exact (Kd.ZX HR0.out HB.out) | (with_reducible refine Kd.za8 ?_ _))); (case side2 => exact HC0.out); (case side3 => repeat (exact (Kd.Jm HO_5.out).2.2)); (case side4 => exact (Kd.Jm HO_5.out).2.1); rintro e w' ⟨rfl, ⟨nd, rfl⟩⟩; (try exact ⟨rfl, _, World.drewN_drewN _ _ _⟩))); try go_wp2_with (fail))
          (try simp only [← hl6_3])
          go_roundg kj12
          case measure => have := HK1.out; have := HK2.out; have := HK3.out; have := HJ12.out; omega
          case rel => exact ⟨(x6_3), (wrap64 (x9_3 + 1)), (by rfl), H', ⟨by have := HK1.out; have := HK2.out; have := HK3.out; have := HJ12.out; omega⟩, ⟨by (try simp only [hl6_3]); (with_reducible repeat (apply Kd.ze1)); exact HO_5.out⟩, ⟨by (try simp only [hl6_3]); (with_reducible repeat (apply Kd.zaq)); exact HO_6.out⟩, ⟨by repeat ((with_reducible first | exact HB.out | apply ZW))⟩⟩
         subst c24
         have H1 : (if x9_3 < (x6_3.length : Int) then (if x8_2 < (x6_3.length : Int) then (Zc.l2 kj12 l0 x5_1 (x6_3.set (x8_2 : Int).toNat (rd x6_3 x9_3)) x7_2 x8_2 (wrap64 (x9_3 + 1))) else (none)) else (none)) = some r := by rw [if_pos rfl] at H; exact H
         clear H
         have H := H1
         clear H1
         by_cases c25 : x9_3 < (x6_3.length : Int)
         rotate_left
         ·rw [if_neg c25] at H
          exact absurd H (by simp)
         rw [if_pos c25] at H
         have c25b0 : decide (x9_3 < (x6_3.length : Int)) = true := decide_eq_true c25
         clear c25
         by_cases c26 : x8_2 < (x6_3.length : Int)
         rotate_left
         ·rw [if_neg c26] at H
          exact absurd H (by simp)
         rw [if_pos c26] at H
         have c26b0 : decide (x8_2 < (x6_3.length : Int)) = true := decide_eq_true c26
         clear c26
         obtain ⟨zq, zk⟩ : ∃ y_ : List Int, y_ = (x6_3.set (x8_2 : Int).toNat (rd x6_3 x9_3)) := ⟨_, rfl⟩
         replace H : (Zc.l2 kj12 l0 x5_1 zq x7_2 x8_2 (wrap64 (x9_3 + 1))) = some r := by (rw [zk]; with_reducible exact H)
         have zD := Z0.mk zk
         clear zk
         have H' := Z0.mk H
         clear H
         obtain ⟨Ao28, co28, eo28⟩ := Kd.zbq HO_5.out
         subst eo28
         have z0 : 0 ≤ (x9_3 : Int) := of_decide_eq_true (by (with_reducible assumption))
         have z1 : x9_3 < (x5_1.length : Int) := of_decide_eq_true (by (with_reducible assumption))
         obtain ⟨z9, zd, z5⟩ := Kd.ZD (Kd.Jm HO_5.out).2.2 x9_3 z0 z1
         cases zd
         replace z0 := eq_true z0
         replace z1 := eq_true z1
         have z2 : 0 ≤ (x8_2 : Int) := of_decide_eq_true (by (with_reducible assumption))
         have z3 : x8_2 < (x5_1.length : Int) := of_decide_eq_true (by (with_reducible assumption))
         obtain ⟨za, ze, z6⟩ := Kd.ZD (Kd.Jm HO_5.out).2.2 x8_2 z2 z3
         obtain rfl : z9 = za := (by injection ze)
         replace z2 := eq_true z2
         replace z3 := eq_true z3
         have zr : 0 ≤ (x9_3 : Int) := of_decide_eq_true (by (with_reducible assumption))
         have zs : x9_3 < (x6_3.length : Int) := of_decide_eq_true (by (with_reducible assumption))
         obtain ⟨zE, zG, zc⟩ := Kd.ZD (Kd.Ze HO_6.out).2.2 x9_3 zr zs
         obtain rfl : (⟨go10, 0, none⟩ : Addr) = zE := (by injection zG)
         (simp only [add_plain] at zc)
         replace zr := eq_true zr
         replace zs := eq_true zs
         have p27 : 0 ≤ (x8_2 : Int) := of_decide_eq_true (by (with_reducible assumption))
         have q27 : (x8_2 : Int) < ((x6_3.length : Int) : Int) := of_decide_eq_true (by (with_reducible assumption))
         obtain ⟨hx27_0, hf27_0⟩ := Kd.J2 0 HO_6.out (x8_2 : Int) p27 q27
         replace p27 := eq_true p27
         replace q27 := eq_true q27
         obtain ⟨hy29_, hz29_⟩ := Kd.J2 0 HO_6.out (x8_2 : Int) (of_decide_eq_true (by (with_reducible assumption))) (of_decide_eq_true (by (with_reducible assumption)))
         have HP29 := Kd.Jk HO_6.out (x8_2 : Int) (rd x6_3 x9_3)
         go_wp2_with (fail)
         repeat (go_quiet ((go_at_call 46; (with_reducible refine (jo.calls kj12 _ _ l0 _ _ x5_1 x9_3 x8_2 true _ ?side1 ?side2 ?side3 ?side4 A23.out).mono ?_); (case side1 => repeat (first | exact (Kd.ZX HR0.out HB.out) | (with_reducible refine Kd.za8 ?_ _))); (case side2 => exact HC0.out); (case side3 => repeat (exact (Kd.Jm HO_5.out).2.2)); (case side4 => exact (Kd.Jm HO_5.out).2.1); rintro e w' ⟨rfl, ⟨nd, rfl⟩⟩; (try exact ⟨rfl, _, World.drewN_drewN _ _ _⟩))); try go_wp2_with (((with_reducible refine jI (t := 3) (p := 57) rfl ?_); (try (rw [zaf wc]; generalize hq_ : World.drewN wc _ = wc; (try (have hx27_0 := JG hq_ hx27_0)); (try (have hf27_0 := zah hq_ hf27_0)); (try (have zc := JG hq_ zc)); (try (have z6 := JG hq_ z6)); (try (have z5 := JG hq_ z5)); have n0_ := Z0.mk (zeo hq_ HO_5.out); have n1_ := Z0.mk (Kd.R_at hq_ HO_6.out); have n2_ := Z0.mk (zb7 hq_ HB.out); clear hq_ HO_5 HO_6 HB; have HO_5 := n0_; have HO_6 := n1_; have HB := n2_; clear n0_ n1_ n2_; (try (obtain ⟨hy29_, hz29_⟩ := Kd.J2 0 HO_6.out (x8_2 : Int) (of_decide_eq_true (by (with_reducible assumption))) (of_decide_eq_true (by (with_reducible assumption))))); (try (have HP29 := Kd.Jk HO_6.out (x8_2 : Int) (rd x6_3 x9_3))))); refine jy (t := 3) (p := 57) (v := ?vo_w30) (w1 := (wc.setCell ⟨go10, (x8_2 : Int).toNat, none⟩ (.int .i64 (rd x6_3 x9_3)))) ?hg ?ho ?hn ?hr ?_; (case ho => rfl); (case hg => rfl); (case hn => rfl); (case hr => (go_simp; done)); intro w30 hw; have hg : wc.grownBy w30 (some go10) := (by rw [hw]; exact HP29.2); have hp_ : Kd.R (Kd.int .i64) 3 w30 w.heap.size (fun k_ => (w.heap.size ≤ k_)) (.slice (some ⟨go10, 0, none⟩) x6_3.length co10) zq := (by rw [hw, zD.out]; exact HP29.1); clear HP29; have n0_ := Z0.mk (Kd.zem (v := (.slice (some ⟨go10, 0, none⟩) x6_3.length co10)) (v1 := (.slice (some ⟨go10, 0, none⟩) x6_3.length co10)) (ok := (fun k_ => (P1_ k_ ∨ w.heap.size ≤ k_))) (HO_5.out) hg (.inl rfl)); have n1_ := Z0.mk (hp_); have n2_ := Z0.mk ((by rw [hw]; exact ZB HB.out GB10.out : Below w.heap.size w w30)); clear HO_5; clear HO_6; clear HB; have HO_5 := n0_; have HO_6 := n1_; have HB := n2_; clear n0_ n1_ n2_; clear hg hw hp_)))
         (try simp only [← hl6_3])
         go_roundg kj12
         case measure => have := HK1.out; have := HK2.out; have := HK3.out; have := HJ12.out; omega
         case rel => exact ⟨(zq), (wrap64 (x9_3 + 1)), (by rfl), H', ⟨by have := HK1.out; have := HK2.out; have := HK3.out; have := HJ12.out; omega⟩, ⟨by (try simp only [hl6_3]); exact HO_5.out⟩, ⟨by (try simp only [hl6_3]); exact HO_6.out⟩, ⟨HB.out⟩⟩
end Go.Proofs.YthpnipdoehbiaaaDoor.Pr
