/- Go functions as Lean functions, with contracts. -/
import Derived.Test.YthpnipdoehbiaaaDoorRSm
namespace Go.Proofs.YthpnipdoehbiaaaDoor.Pr
open Go.RowKit Go.Proofs.YthpnipdoehbiaaaDoorW.PrintWords Go.Proofs.YthpnipdoehbiaaaDoorW.PrintLast Go.Proofs.YthpnipdoehbiaaaDoorW.PrintMore
attribute [local go_sem] jF jD jQ jO jx jw jG jE
set_option linter.unusedVariables false
set_option linter.unusedSimpArgs false
mutual
def Zg.l0 : Nat → List (List Int) → List Bool → Bool → Option (List Bool)
 | 0, _, _, _ => none
 | k + 1, x0, x3, x4 => if x4 = true then (Zg.l1 k x0 x3 false 0) else (some x3)
def Zg.l1 : Nat → List (List Int) → List Bool → Bool → Int → Option (List Bool)
 | 0, _, _, _, _ => none
 | k + 1, x0, x3, x4, x5 => if x5 < (x0.length : Int) then (Zg.l2 k x0 x3 x4 x5 0) else (Zg.l0 k x0 x3 x4)
def Zg.l2 : Nat → List (List Int) → List Bool → Bool → Int → Int → Option (List Bool)
 | 0, _, _, _, _, _ => none
 | k + 1, x0, x3, x4, x5, x6 => if 0 ≤ x5 then (if x5 < (x0.length : Int) then (if x6 < ((Z3 x0 x5).length : Int) then (if x5 < (x3.length : Int) then (Zg.j3 k x0 x3 x4 x5 x6 (Jo false x3 x5)) else (none)) else (Zg.j3 k x0 x3 x4 x5 x6 false)) else (none)) else (none)
def Zg.j3 : Nat → List (List Int) → List Bool → Bool → Int → Int → Bool → Option (List Bool)
 | 0, _, _, _, _, _, _ => none
 | k + 1, x0, x3, x4, x5, x6, x31 => if x31 = true then (if 0 ≤ x5 then (if x5 < (x0.length : Int) then (if 0 ≤ x6 then (if x6 < ((Z3 x0 x5).length : Int) then (if 0 ≤ (rd (Z3 x0 x5) x6) then (if (rd (Z3 x0 x5) x6) < (x3.length : Int) then (if (Jo false x3 (rd (Z3 x0 x5) x6) = true) then (Zg.l2 k x0 x3 x4 x5 (wrap64 (x6 + 1))) else (Zg.l2 k x0 (x3.set ((rd (Z3 x0 x5) x6) : Int).toNat true) true x5 (wrap64 (x6 + 1)))) else (none)) else (none)) else (none)) else (none)) else (none)) else (none)) else (Zg.l1 k x0 x3 x4 (wrap64 (x5 + 1)))
end
def Zg.f (k : Nat) (l0 : List (List Int)) : Option (List Bool) := if 0 ≤ (l0.length : Int) then (if ((l0.length : Int) : Int).toNat ≤ 281474976710656 then ((some (List.replicate ((l0.length : Int) : Int).toNat false : List Bool)).bind fun z0 => (if 0 < (z0.length : Int) then (Zg.l0 k l0 (z0.set (0 : Int).toNat true) true) else (none))) else (none)) else (none)
set_option maxHeartbeats 8000000 in
set_option maxRecDepth 100000 in
theorem Zg.calls (k : Nat) (A0 : Option Addr) (c0 : Nat) (l0 : List (List Int)) (r : List Bool) (w : World) (hr0 : Kd.C (Kd.slice 3 (Kd.int .i64)) w A0 l0.length l0) (hc0 : l0.length ≤ c0) (h : Zg.f k l0 = some r) :
  Calls Tryd.prog 37 #[.slice A0 l0.length c0] w fun e w' => ∃ v0_ : Value, e = .returned (v0_) ∧ Kd.R Kd.bool 4 w' w.heap.size (fun _ => True) v0_ r ∧ Below w.heap.size w w' := by
 have HR0 := Z0.mk hr0
 have HC0 := Z0.mk hc0
 clear hr0 hc0
 have HB := Z0.mk (Below.refl w.heap.size w)
 have H : (if 0 ≤ (l0.length : Int) then (if ((l0.length : Int) : Int).toNat ≤ 281474976710656 then ((some (List.replicate ((l0.length : Int) : Int).toNat false : List Bool)).bind fun z0 => (if 0 < (z0.length : Int) then (Zg.l0 k l0 (z0.set (0 : Int).toNat true) true) else (none))) else (none)) else (none)) = some r := h
 clear h
 by_cases c2 : 0 ≤ (l0.length : Int)
 rotate_left
 ·rw [if_neg c2] at H
  exact absurd H (by simp)
 rw [if_pos c2] at H
 have c2b0 := eq_true c2
 have c2b1 : decide (0 ≤ (l0.length : Int)) = true := decide_eq_true c2
 clear c2
 by_cases c3 : ((l0.length : Int) : Int).toNat ≤ 281474976710656
 rotate_left
 ·rw [if_neg c3] at H
  exact absurd H (by simp)
 rw [if_pos c3] at H
 have c3b0 := eq_true c3
 have c3b1 : decide (((l0.length : Int) : Int).toNat ≤ 281474976710656) = true := decide_eq_true c3
 clear c3
 obtain ⟨z0, zn⟩ : ∃ y_ : List Bool, y_ = (List.replicate ((l0.length : Int) : Int).toNat false) := ⟨_, rfl⟩
 replace H : (if 0 < (z0.length : Int) then (Zg.l0 k l0 (z0.set (0 : Int).toNat true) true) else (none)) = some r := by (have H2_ := (Option.bind_some _ _).symm.trans H; rw [zn]; with_reducible exact H2_)
 have zN := Z0.mk zn
 clear zn
 by_cases c4 : 0 < (z0.length : Int)
 rotate_left
 ·rw [if_neg c4] at H
  exact absurd H (by simp)
 rw [if_pos c4] at H
 have c4b0 : decide (0 < (z0.length : Int)) = true := decide_eq_true c4
 have c4b1 : decide (0 < z0.length) = true := decide_eq_true (by omega)
 clear c4
 obtain ⟨zr, zo⟩ : ∃ y_ : List Bool, y_ = (z0.set (0 : Int).toNat true) := ⟨_, rfl⟩
 replace H : (Zg.l0 k l0 zr true) = some r := by (rw [zo]; with_reducible exact H)
 have zO := Z0.mk zo
 clear zo
 have H' := Z0.mk H
 clear H
 go_enter Tryd.func37, Tryd.ntmps37
 go_wp2_with (first | ((with_reducible refine ZI (N := 9) rfl ?_); refine Kd.zcv Kd.bool _ 4 rfl (N := 9) rfl 48 _ _ rfl (l0.length : Int) rfl rfl Tryd.underlying48 (.bool false) 1 info4 rfl (by decide) (by omega) false (ok := fun _ => True) (okp := fun _ => True) rfl (fun _ hk => hk) trivial (of_decide_eq_true (by (with_reducible assumption))) (Nat.le_trans (Nat.mul_le_mul_right _ (of_decide_eq_true (by (with_reducible assumption)) : (l0.length : Int).toNat ≤ 281474976710656)) (by omega)) (Below.refl _ _) (Nat.le_refl _) ?_; intro v387 w6 ho7 hb hg_ hnew_; clear hg_ hnew_; (rw [← zN.out] at ho7); have n0_ := Z0.mk (Kd.ZL ho7 (Z4 HB.out)); have n1_ := Z0.mk (Z9 HB.out hb); clear HB; have z9 := n0_; have HB := n1_; clear n0_ n1_; clear hb ho7; have p5 : 0 ≤ (0 : Int) := (by omega); have q5 : (0 : Int) < ((z0.length : Int) : Int) := of_decide_eq_true (by (with_reducible assumption)); have qi5 : (0 < z0.length) = True := eq_true (by omega); obtain ⟨go5, co5, eo5, gb5, gl5, cl5, HG5⟩ := Kd.za6 z9.out (by omega); (cases eo5); have GB5 := Z0.mk gb5; have GG5 := Z0.mk HG5; clear gb5 gl5 HG5; obtain ⟨hx5_0, hf5_0⟩ := Kd.J2 false z9.out (0 : Int) p5 q5; (try rw [show ((0 : Int)).toNat = 0 from rfl] at hx5_0); (try simp only [Nat.reduceMul, Nat.zero_mul, Nat.zero_add, Nat.reduceAdd] at hx5_0); (try rw [show ((0 : Int)).toNat = 0 from rfl] at hf5_0); (try simp only [Nat.reduceMul, Nat.zero_mul, Nat.zero_add, Nat.reduceAdd] at hf5_0); replace p5 := eq_true p5; replace q5 := eq_true q5; obtain ⟨hy8_, hz8_⟩ := Kd.J2 false z9.out (0 : Int) (by omega) (of_decide_eq_true (by (with_reducible assumption))); (try simp only [Int.reduceToNat, Int.toNat_zero, Int.toNat_ofNat, Nat.reduceMul, Nat.zero_mul, Nat.zero_add] at hy8_ hz8_); (try rw [show ((0 : Int)).toNat = 0 from rfl] at hy8_); (try rw [show ((0 : Int)).toNat = 0 from rfl] at hz8_); have HP8 := Kd.Jk z9.out (0 : Int) true) | ((with_reducible refine jI (t := 4) (p := 11) rfl ?_); refine jy (t := 4) (p := 11) (v := ?vo_w9) (w1 := (w6.setCell ⟨go5, (0 : Int).toNat, none⟩ (.bool true))) ?hg ?ho ?hn ?hr ?_; (case ho => rfl); (case hg => rfl); (case hn => rfl); (case hr => (go_simp; done)); intro w9 hw; have hg : w6.grownBy w9 (some go5) := (by rw [hw]; exact HP8.2); have hp_ : Kd.R Kd.bool 4 w9 w.heap.size (fun _ => True) (.slice (some ⟨go5, 0, none⟩) z0.length co5) zr := (by rw [hw, zO.out]; exact HP8.1); clear HP8; have n0_ := Z0.mk (hp_); have n1_ := Z0.mk ((by rw [hw]; exact ZB HB.out GB5.out : Below w.heap.size w w9)); clear z9; clear HB; have z9 := n0_; have HB := n1_; clear n0_ n1_; clear hg hw hp_))
 go_loopg [4] k (fun kq v4 w' => ∃ (x3_1 : List Bool) (x4_1 : Bool), v4 = .bool x4_1 ∧ Z0 (Zg.l0 kq l0 x3_1 x4_1 = some r) ∧ Z0 (kq ≤ k) ∧ Z0 (Kd.R Kd.bool 4 w' w.heap.size (fun _ => True) (.slice (some ⟨go5, 0, none⟩) z0.length co5) x3_1) ∧ Z0 (Below w.heap.size w w'))
 case atStart => exact ⟨(zr), (true), (by rfl), H', ⟨Nat.le_refl _⟩, ⟨z9.out⟩, ⟨HB.out⟩⟩
 case round =>
  clear H'
  clear c2b0 c2b1 c3b0 c3b1 c4b0 c4b1 p5 q5 qi5 hx5_0
  obtain ⟨x3_1, x4_1, rfl, HA, HK1, HO_3, HB⟩ := hrel
  have hl3_1 := (Kd.Ze HO_3.out).1
  rw [hl3_1] at HO_3
  (try simp only [hl3_1])
  cases gk with
  | zero => exact absurd HA.out (by simp [Zg.l0])
  | succ k1 =>
   have H := HA.out
   clear HA
   simp only [Zg.l0] at H
   by_cases c10 : x4_1 = true
   rotate_left
   ·replace c10 := Bool.eq_false_iff.mpr c10
    subst c10
    have H1 : (some x3_1) = some r := by rw [if_neg (show ¬ (false = true) by decide)] at H; exact H
    clear H
    have H := H1
    clear H1
    obtain rfl := Option.some.inj H
    go_wp2
    go_ret
    exact ⟨_, by rfl, HO_3.out, HB.out⟩
   subst c10
   have H1 : (Zg.l1 k1 l0 x3_1 false 0) = some r := by rw [if_pos rfl] at H; exact H
   clear H
   have H := H1
   clear H1
   have H' := Z0.mk H
   clear H
   go_wp2
   go_loopg [4, 5] k1 (fun kq v4 v5 w' => ∃ (x3_2 : List Bool) (x4_2 : Bool) (x5_2 : Int), v4 = .bool x4_2 ∧ v5 = .int .i64 x5_2 ∧ Z0 (Zg.l1 kq l0 x3_2 x4_2 x5_2 = some r) ∧ Z0 (kq ≤ k1) ∧ Z0 (Kd.R Kd.bool 4 w' w.heap.size (fun _ => True) (.slice (some ⟨go5, 0, none⟩) x3_1.length co5) x3_2) ∧ Z0 (Below w.heap.size w w'))
   case atStart => exact ⟨(x3_1), (false), (0), (by rfl), (by rfl), H', ⟨Nat.le_refl _⟩, ⟨by (try simp only [hl3_1]); exact HO_3.out⟩, ⟨HB.out⟩⟩
   case round =>
    clear H'
    obtain ⟨x3_2, x4_2, x5_2, rfl, rfl, HA, HK2, HO_3, HB⟩ := hrel
    have hl3_2 := (Kd.Ze HO_3.out).1
    rw [hl3_2] at HO_3
    (try simp only [hl3_2])
    cases gk with
    | zero => exact absurd HA.out (by simp [Zg.l1])
    | succ k2 =>
     have H := HA.out
     clear HA
     simp only [Zg.l1] at H
     by_cases c11 : x5_2 < (l0.length : Int)
     rotate_left
     ·rw [if_neg c11] at H
      have c11b0 : decide (x5_2 < (l0.length : Int)) = false := decide_eq_false c11
      clear c11
      have H' := Z0.mk H
      clear H
      go_wp2
      (try simp only [← hl3_1, ← hl3_2])
      go_roundg k2
      case measure => have := HK1.out; have := HK2.out; omega
      case rel => exact ⟨(x3_2), (x4_2), (by rfl), H', ⟨by have := HK1.out; have := HK2.out; omega⟩, ⟨by (try simp only [hl3_1]); (try simp only [hl3_2]); exact HO_3.out⟩, ⟨HB.out⟩⟩
     rw [if_pos c11] at H
     have c11b0 : decide (x5_2 < (l0.length : Int)) = true := decide_eq_true c11
     clear c11
     have H' := Z0.mk H
     clear H
     go_wp2
     go_loopg [4, 6] k2 (fun kq v4 v6 w' => ∃ (x3_3 : List Bool) (x4_3 : Bool) (x6_3 : Int), v4 = .bool x4_3 ∧ v6 = .int .i64 x6_3 ∧ Z0 (Zg.l2 kq l0 x3_3 x4_3 x5_2 x6_3 = some r) ∧ Z0 (kq ≤ k2) ∧ Z0 (Kd.R Kd.bool 4 w' w.heap.size (fun _ => True) (.slice (some ⟨go5, 0, none⟩) x3_2.length co5) x3_3) ∧ Z0 (Below w.heap.size w w'))
     case atStart => exact ⟨(x3_2), (x4_2), (0), (by rfl), (by rfl), H', ⟨Nat.le_refl _⟩, ⟨by (try simp only [hl3_1]); (try simp only [hl3_2]); exact HO_3.out⟩, ⟨HB.out⟩⟩
     case round =>
      clear H'
      clear c11b0
      obtain ⟨x3_3, x4_3, x6_3, rfl, rfl, HA, HK3, HO_3, HB⟩ := hrel
      have hl3_3 := (Kd.Ze HO_3.out).1
      rw [hl3_3] at HO_3
      (try simp only [hl3_3])
      cases gk with
      | zero => exact absurd HA.out (by simp [Zg.l2])
      | succ k3 =>
       have H := HA.out
       clear HA
       simp only [Zg.l2] at H
       have HC12 := Z0.mk H
       clear H
       go_upto_region 10 with (fail)
       go_cut [31] (fun v31 wc => ∃ (kq : Nat) (x31_11 : Bool), v31 = .bool x31_11 ∧ Z0 (Zg.j3 kq l0 x3_3 x4_3 x5_2 x6_3 x31_11 = some r) ∧ Z0 (kq ≤ k3) ∧ Z0 (Kd.R Kd.bool 4 wc w.heap.size (fun _ => True) (.slice (some ⟨go5, 0, none⟩) x3_3.length co5) x3_3) ∧ Z0 (Below w.heap.size w wc))
       case first =>
        have H := HC12.out
        clear HC12
        by_cases c13 : 0 ≤ x5_2
        rotate_left
        ·rw [if_neg c13] at H
         exact absurd H (by simp)
        rw [if_pos c13] at H
        have c13b0 : decide (0 ≤ x5_2) = true := decide_eq_true c13
        clear c13
        (skip)
        by_cases c14 : x5_2 < (l0.length : Int)
        rotate_left
        ·rw [if_neg c14] at H
         exact absurd H (by simp)
        rw [if_pos c14] at H
        have c14b0 : decide (x5_2 < (l0.length : Int)) = true := decide_eq_true c14
        clear c14
        by_cases c15 : x6_3 < ((Z3 l0 x5_2).length : Int)
        rotate_left
        ·rw [if_neg c15] at H
         have c15b0 : decide (x6_3 < ((Z3 l0 x5_2).length : Int)) = false := decide_eq_false c15
         clear c15
         have H' := Z0.mk H
         clear H
         have zb : 0 ≤ (x5_2 : Int) := of_decide_eq_true (by (with_reducible assumption))
         have zc : x5_2 < (l0.length : Int) := of_decide_eq_true (by (with_reducible assumption))
         obtain ⟨zP, zJ, zK, zs, z2, z4, z5⟩ := jZ HR0.out x5_2 zb zc
         cases zs
         replace z2 := (HB.out.cell (World.block_lt_of_cell? w _ z2)).trans z2
         have zE := Z0.mk z5
         have zF := Z0.mk z4
         clear z5 z4
         replace zb := eq_true zb
         replace zc := eq_true zc
         go_wp2
         go_meet
         case rel => exact ⟨_, (false), (by rfl), H', ⟨by have := HK1.out; have := HK2.out; have := HK3.out; omega⟩, ⟨by (try simp only [hl3_1]); (try simp only [hl3_2]); (try simp only [hl3_3]); exact HO_3.out⟩, ⟨HB.out⟩⟩
        rw [if_pos c15] at H
        have c15b0 : decide (x6_3 < ((Z3 l0 x5_2).length : Int)) = true := decide_eq_true c15
        clear c15
        by_cases c16 : x5_2 < (x3_3.length : Int)
        rotate_left
        ·rw [if_neg c16] at H
         exact absurd H (by simp)
        rw [if_pos c16] at H
        have c16b0 : decide (x5_2 < (x3_3.length : Int)) = true := decide_eq_true c16
        clear c16
        have H' := Z0.mk H
        clear H
        have zb : 0 ≤ (x5_2 : Int) := of_decide_eq_true (by (with_reducible assumption))
        have zc : x5_2 < (l0.length : Int) := of_decide_eq_true (by (with_reducible assumption))
        obtain ⟨zP, zJ, zK, zs, z2, z4, z5⟩ := jZ HR0.out x5_2 zb zc
        cases zs
        replace z2 := (HB.out.cell (World.block_lt_of_cell? w _ z2)).trans z2
        have zE := Z0.mk z5
        have zF := Z0.mk z4
        clear z5 z4
        replace zb := eq_true zb
        replace zc := eq_true zc
        have zt : 0 ≤ (x5_2 : Int) := of_decide_eq_true (by (with_reducible assumption))
        have zu : x5_2 < (x3_3.length : Int) := of_decide_eq_true (by (with_reducible assumption))
        obtain ⟨zQ, zU, zG⟩ := Kd.zb6 (Kd.Ze HO_3.out).2.2 x5_2 zt zu
        obtain rfl : (⟨go5, 0, none⟩ : Addr) = zQ := (by injection zU)
        (simp only [add_plain] at zG)
        replace zt := eq_true zt
        replace zu := eq_true zu
        go_wp2
        go_meet
        case rel => exact ⟨_, (Jo false x3_3 x5_2), (by rfl), H', ⟨by have := HK1.out; have := HK2.out; have := HK3.out; omega⟩, ⟨by (try simp only [hl3_1]); (try simp only [hl3_2]); (try simp only [hl3_3]); exact HO_3.out⟩, ⟨HB.out⟩⟩
       case rest =>
        clear HC12
        obtain ⟨kq, x31_11, rfl, HA, HJ11, HO_3, HB⟩ := hcut
        cases kq with
        | zero => exact absurd HA.out (by simp [Zg.j3])
        | succ kj11 =>
         have H := HA.out
         clear HA
         simp only [Zg.j3] at H
         by_cases c17 : x31_11 = true
         rotate_left
         ·replace c17 := Bool.eq_false_iff.mpr c17
          subst c17
          have H1 : (Zg.l1 kj11 l0 x3_3 x4_3 (wrap64 (x5_2 + 1))) = some r := by rw [if_neg (show ¬ (false = true) by decide)] at H; exact H
          clear H
          have H := H1
          clear H1
          have H' := Z0.mk H
          clear H
          go_wp2
          (try simp only [← hl3_2, ← hl3_3])
          go_roundg kj11
          case measure => have := HK1.out; have := HK2.out; have := HK3.out; have := HJ11.out; omega
          case rel => exact ⟨(x3_3), (x4_3), (wrap64 (x5_2 + 1)), (by rfl), (by rfl), H', ⟨by have := HK1.out; have := HK2.out; have := HK3.out; have := HJ11.out; omega⟩, ⟨by (try simp only [hl3_1]); (try simp only [hl3_2]); (try simp only [hl3_3]); exact HO_3.out⟩, ⟨HB.out⟩⟩
         subst c17
         have H1 : (if 0 ≤ x5_2 then (if x5_2 < (l0.length : Int) then (if 0 ≤ x6_3 then (if x6_3 < ((Z3 l0 x5_2).length : Int) then (if 0 ≤ (rd (Z3 l0 x5_2) x6_3) then (if (rd (Z3 l0 x5_2) x6_3) < (x3_3.length : Int) then (if (Jo false x3_3 (rd (Z3 l0 x5_2) x6_3) = true) then (Zg.l2 kj11 l0 x3_3 x4_3 x5_2 (wrap64 (x6_3 + 1))) else (Zg.l2 kj11 l0 (x3_3.set ((rd (Z3 l0 x5_2) x6_3) : Int).toNat true) true x5_2 (wrap64 (x6_3 + 1)))) else (none)) else (none)) else (none)) else (none)) else (none)) else (none)) = some r := by rw [if_pos rfl] at H; exact H
         clear H
         have H := H1
         clear H1
         by_cases c18 : 0 ≤ x5_2
         rotate_left
         ·rw [if_neg c18] at H
          exact absurd H (by simp)
         rw [if_pos c18] at H
         have c18b0 : decide (0 ≤ x5_2) = true := decide_eq_true c18
         clear c18
         by_cases c19 : x5_2 < (l0.length : Int)
         rotate_left
         ·rw [if_neg c19] at H
          exact absurd H (by simp)
         rw [if_pos c19] at H
         have c19b0 : decide (x5_2 < (l0.length : Int)) = true := decide_eq_true c19
         clear c19
         by_cases c20 : 0 ≤ x6_3
         rotate_left
         ·rw [if_neg c20] at H
          exact absurd H (by simp)
         rw [if_pos c20] at H
         have c20b0 : decide (0 ≤ x6_3) = true := decide_eq_true c20
         clear c20
         by_cases c21 : x6_3 < ((Z3 l0 x5_2).length : Int)
         rotate_left
         ·rw [if_neg c21] at H
          exact absurd H (by simp)
         rw [if_pos c21] at H
         have c21b0 : decide (x6_3 < ((Z3 l0 x5_2).length : Int)) = true := decide_eq_true c21
         clear c21
         by_cases c22 : 0 ≤ (rd (Z3 l0 x5_2) x6_3)
         rotate_left
         ·rw [if_neg c22] at H
          exact absurd H (by simp)
         rw [if_pos c22] at H
         have c22b0 : decide (0 ≤ (rd (Z3 l0 x5_2) x6_3)) = true := decide_eq_true c22
         clear c22
         by_cases c23 : (rd (Z3 l0 x5_2) x6_3) < (x3_3.length : Int)
         rotate_left
         ·rw [if_neg c23] at H
          exact absurd H (by simp)
         rw [if_pos c23] at H
         have c23b0 : decide ((rd (Z3 l0 x5_2) x6_3) < (x3_3.length : Int)) = true := decide_eq_true c23
         clear c23
         obtain ⟨bq24, hbq24⟩ : ∃ b_ : Bool, b_ = (Jo false x3_3 (rd (Z3 l0 x5_2) x6_3)) := ⟨_, rfl⟩
         replace H : (if (bq24 = true) then (Zg.l2 kj11 l0 x3_3 x4_3 x5_2 (wrap64 (x6_3 + 1))) else (Zg.l2 kj11 l0 (x3_3.set ((rd (Z3 l0 x5_2) x6_3) : Int).toNat true) true x5_2 (wrap64 (x6_3 + 1)))) = some r := by rw [← hbq24] at H; exact H
         have Nbq24 := Z0.mk hbq24
         clear hbq24
         by_cases c25 : (bq24 = true)
         rotate_left
         ·replace c25 := Bool.eq_false_iff.mpr c25
          subst c25
          have H1 : (Zg.l2 kj11 l0 (x3_3.set ((rd (Z3 l0 x5_2) x6_3) : Int).toNat true) true x5_2 (wrap64 (x6_3 + 1))) = some r := by rw [if_neg (show ¬ (false = true) by decide)] at H; exact H
          clear H
          have H := H1
          clear H1
          obtain ⟨zv, zp⟩ : ∃ y_ : List Bool, y_ = (x3_3.set ((rd (Z3 l0 x5_2) x6_3) : Int).toNat true) := ⟨_, rfl⟩
          replace H : (Zg.l2 kj11 l0 zv true x5_2 (wrap64 (x6_3 + 1))) = some r := by (rw [zp]; with_reducible exact H)
          have zR := Z0.mk zp
          clear zp
          have H' := Z0.mk H
          clear H
          have zd : 0 ≤ (x5_2 : Int) := of_decide_eq_true (by (with_reducible assumption))
          have ze : x5_2 < (l0.length : Int) := of_decide_eq_true (by (with_reducible assumption))
          obtain ⟨zD, zL, zM, zw, z1, z6, z7⟩ := jZ HR0.out x5_2 zd ze
          cases zw
          replace z1 := (HB.out.cell (World.block_lt_of_cell? w _ z1)).trans z1
          have zj := Z0.mk z7
          have zH := Z0.mk z6
          clear z7 z6
          replace zd := eq_true zd
          replace ze := eq_true ze
          have zf : 0 ≤ (x6_3 : Int) := of_decide_eq_true (by (with_reducible assumption))
          have zg : x6_3 < ((Z3 l0 x5_2).length : Int) := of_decide_eq_true (by (with_reducible assumption))
          obtain ⟨zS, zx, z3⟩ := Kd.ZD zj.out x6_3 zf zg
          cases zx
          replace z3 := (HB.out.cell (World.block_lt_of_cell? w _ z3)).trans z3
          replace zf := eq_true zf
          replace zg := eq_true zg
          have zh : 0 ≤ ((rd (Z3 l0 x5_2) x6_3) : Int) := of_decide_eq_true (by (with_reducible assumption))
          have zi : (rd (Z3 l0 x5_2) x6_3) < (x3_3.length : Int) := of_decide_eq_true (by (with_reducible assumption))
          obtain ⟨zq, zy, z8⟩ := Kd.zb6 (Kd.Ze HO_3.out).2.2 (rd (Z3 l0 x5_2) x6_3) zh zi
          (try rw [← Nbq24.out] at z8)
          obtain rfl : (⟨go5, 0, none⟩ : Addr) = zq := (by injection zy)
          (simp only [add_plain] at z8)
          replace zh := eq_true zh
          replace zi := eq_true zi
          have zz : 0 ≤ (x5_2 : Int) := of_decide_eq_true (by (with_reducible assumption))
          have zA : x5_2 < (l0.length : Int) := of_decide_eq_true (by (with_reducible assumption))
          obtain ⟨zT, zY, zZ, zV, za, zl, zm⟩ := jZ HR0.out x5_2 zz zA
          obtain rfl : zD = zT := (by injection zV)
          replace za := (HB.out.cell (World.block_lt_of_cell? w _ za)).trans za
          have zI := Z0.mk zm
          have zX := Z0.mk zl
          clear zm zl
          replace zz := eq_true zz
          replace zA := eq_true zA
          have ea_ := Option.some.inj (z1.symm.trans za)
          injection ea_ with ea_ en_ ec_
          subst ea_
          subst ec_
          clear en_
          have zB : 0 ≤ (x6_3 : Int) := of_decide_eq_true (by (with_reducible assumption))
          have zC : x6_3 < ((Z3 l0 x5_2).length : Int) := of_decide_eq_true (by (with_reducible assumption))
          obtain ⟨y0, zW, zk⟩ := Kd.ZD zI.out x6_3 zB zC
          cases zW
          replace zk := (HB.out.cell (World.block_lt_of_cell? w _ zk)).trans zk
          replace zB := eq_true zB
          replace zC := eq_true zC
          have p26 : 0 ≤ ((rd (Z3 l0 x5_2) x6_3) : Int) := of_decide_eq_true (by (with_reducible assumption))
          have q26 : ((rd (Z3 l0 x5_2) x6_3) : Int) < ((x3_3.length : Int) : Int) := of_decide_eq_true (by (with_reducible assumption))
          obtain ⟨hx26_0, hf26_0⟩ := Kd.J2 false HO_3.out ((rd (Z3 l0 x5_2) x6_3) : Int) p26 q26
          replace p26 := eq_true p26
          replace q26 := eq_true q26
          have HP27 := Kd.Jk HO_3.out ((rd (Z3 l0 x5_2) x6_3) : Int) true
          go_wp2_with (((with_reducible refine jI (t := 4) (p := 53) rfl ?_); refine jy (t := 4) (p := 53) (v := ?vo_w28) (w1 := (wc.setCell ⟨go5, ((rd (Z3 l0 x5_2) x6_3) : Int).toNat, none⟩ (.bool true))) ?hg ?ho ?hn ?hr ?_; (case ho => rfl); (case hg => rfl); (case hn => rfl); (case hr => (go_simp; done)); intro w28 hw; have hg : wc.grownBy w28 (some go5) := (by rw [hw]; exact HP27.2); have hp_ : Kd.R Kd.bool 4 w28 w.heap.size (fun _ => True) (.slice (some ⟨go5, 0, none⟩) x3_3.length co5) zv := (by rw [hw, zR.out]; exact HP27.1); clear HP27; have n0_ := Z0.mk (hp_); have n1_ := Z0.mk ((by rw [hw]; exact ZB HB.out GB5.out : Below w.heap.size w w28)); clear HO_3; clear HB; have HO_3 := n0_; have HB := n1_; clear n0_ n1_; clear hg hw hp_))
          (try simp only [← hl3_3])
          go_roundg kj11
          case measure => have := HK1.out; have := HK2.out; have := HK3.out; have := HJ11.out; omega
          case rel => exact ⟨(zv), (true), (wrap64 (x6_3 + 1)), (by rfl), (by rfl), H', ⟨by have := HK1.out; have := HK2.out; have := HK3.out; have := HJ11.out; omega⟩, ⟨by (try simp only [hl3_1]); (try simp only [hl3_2]); (try simp only [hl3_3]); exact HO_3.out⟩, ⟨HB.out⟩⟩
         subst c25
         have H1 : (Zg.l2 kj11 l0 x3_3 x4_3 x5_2 (wrap64 (x6_3 + 1))) = some r := by rw [if_pos rfl] at H; exact H
         clear H
         have H := H1
         clear H1
         have H' := Z0.mk H
         clear H
         have zd : 0 ≤ (x5_2 : Int) := of_decide_eq_true (by (with_reducible assumption))
         have ze : x5_2 < (l0.length : Int) := of_decide_eq_true (by (with_reducible assumption))
         obtain ⟨zD, zL, zM, zw, z1, z6, z7⟩ := jZ HR0.out x5_2 zd ze
         cases zw
         replace z1 := (HB.out.cell (World.block_lt_of_cell? w _ z1)).trans z1
         have zj := Z0.mk z7
         have zH := Z0.mk z6
         clear z7 z6
         replace zd := eq_true zd
         replace ze := eq_true ze
         have zf : 0 ≤ (x6_3 : Int) := of_decide_eq_true (by (with_reducible assumption))
         have zg : x6_3 < ((Z3 l0 x5_2).length : Int) := of_decide_eq_true (by (with_reducible assumption))
         obtain ⟨zS, zx, z3⟩ := Kd.ZD zj.out x6_3 zf zg
         cases zx
         replace z3 := (HB.out.cell (World.block_lt_of_cell? w _ z3)).trans z3
         replace zf := eq_true zf
         replace zg := eq_true zg
         have zh : 0 ≤ ((rd (Z3 l0 x5_2) x6_3) : Int) := of_decide_eq_true (by (with_reducible assumption))
         have zi : (rd (Z3 l0 x5_2) x6_3) < (x3_3.length : Int) := of_decide_eq_true (by (with_reducible assumption))
         obtain ⟨zq, zy, z8⟩ := Kd.zb6 (Kd.Ze HO_3.out).2.2 (rd (Z3 l0 x5_2) x6_3) zh zi
         (try rw [← Nbq24.out] at z8)
         obtain rfl : (⟨go5, 0, none⟩ : Addr) = zq := (by injection zy)
         (simp only [add_plain] at z8)
         replace zh := eq_true zh
         replace zi := eq_true zi
         go_wp2
         (try simp only [← hl3_3])
         go_roundg kj11
         case measure => have := HK1.out; have := HK2.out; have := HK3.out; have := HJ11.out; omega
         case rel => exact ⟨(x3_3), (x4_3), (wrap64 (x6_3 + 1)), (by rfl), (by rfl), H', ⟨by have := HK1.out; have := HK2.out; have := HK3.out; have := HJ11.out; omega⟩, ⟨by (try simp only [hl3_1]); (try simp only [hl3_2]); (try simp only [hl3_3]); exact HO_3.out⟩, ⟨HB.out⟩⟩
end Go.Proofs.YthpnipdoehbiaaaDoor.Pr
