/- Go functions as Lean functions, with contracts. -/
import Derived.Test.YthpnipdoehbiaaaDoorRSm
namespace Go.Proofs.YthpnipdoehbiaaaDoor.Pr
open Go.RowKit Go.Proofs.YthpnipdoehbiaaaDoorW.PrintWords Go.Proofs.YthpnipdoehbiaaaDoorW.PrintLast Go.Proofs.YthpnipdoehbiaaaDoorW.PrintMore
attribute [local go_sem] jF jD jQ jO jx jw jG jE
set_option linter.unusedVariables false
set_option linter.unusedSimpArgs false
mutual
def Zd.l0 : Nat → List Bool → List Int → Int → List (List Int) → List ByteArray → Option (List Int)
 | 0, _, _, _, _, _ => none
 | k + 1, x3, x4, x5, z5, z8 => if x5 < (x4.length : Int) then (if 0 ≤ x5 then (if 0 ≤ (rd x4 x5) then (if (rd x4 x5) < (z5.length : Int) then (Zd.l1 k x3 x4 x5 (Z3 z5 (rd x4 x5)) ((Z3 z5 (rd x4 x5)).length : Int) 0 z5 z8) else (none)) else (none)) else (none)) else (some x4)
def Zd.l1 : Nat → List Bool → List Int → Int → List Int → Int → Int → List (List Int) → List ByteArray → Option (List Int)
 | 0, _, _, _, _, _, _, _, _ => none
 | k + 1, x3, x4, x5, x31, x32, x33, z5, z8 => if x33 < x32 then (if 0 ≤ x33 then (if x33 < (x31.length : Int) then (if (rd x31 x33) ≥ 0 then (if (rd x31 x33) < (x3.length : Int) then (if 0 ≤ (rd x31 x33) then (if (Jo false x3 (rd x31 x33) = true) then (Zd.l1 k x3 x4 x5 x31 x32 (wrap64 (x33 + 1)) z5 z8) else (if x4.length < 17592186044416 then (Zd.l1 k (x3.set ((rd x31 x33) : Int).toNat true) (x4 ++ [rd x31 x33]) x5 x31 x32 (wrap64 (x33 + 1)) z5 z8) else (none))) else (none)) else (Zd.l1 k x3 x4 x5 x31 x32 (wrap64 (x33 + 1)) z5 z8)) else (Zd.l1 k x3 x4 x5 x31 x32 (wrap64 (x33 + 1)) z5 z8)) else (none)) else (none)) else (Zd.l0 k x3 x4 (wrap64 (x5 + 1)) z5 z8)
end
def Zd.f (k : Nat) (l0_0 : List (List Int)) (l0_1 : List ByteArray) : Option (List Int) := if 0 ≤ (l0_0.length : Int) then (if ((l0_0.length : Int) : Int).toNat ≤ 281474976710656 then ((some (List.replicate ((l0_0.length : Int) : Int).toNat false : List Bool)).bind fun z2 => (if (z2.length : Int) = 0 then (some ([] : List Int)) else (if 0 < (z2.length : Int) then (Zd.l0 k (z2.set (0 : Int).toNat true) (([0] : List Int)) 0 l0_0 l0_1) else (none)))) else (none)) else (none)
theorem Zd.Jh : ∀ k, (∀ y0 y1 y2 y3 y4, LeO (Zd.l0 k y0 y1 y2 y3 y4) (Zd.l0 (k + 1) y0 y1 y2 y3 y4)) ∧ (∀ y0 y1 y2 y3 y4 y5 y6 y7, LeO (Zd.l1 k y0 y1 y2 y3 y4 y5 y6 y7) (Zd.l1 (k + 1) y0 y1 y2 y3 y4 y5 y6 y7))
 | 0 => ⟨fun _ _ _ _ _ r h => by simp [Zd.l0] at h, fun _ _ _ _ _ _ _ _ r h => by simp [Zd.l1] at h⟩
 | k + 1 => by
  obtain ⟨ih0, ih1⟩ := Zd.Jh k
  refine ⟨?_, ?_⟩
  ·intro y0 y1 y2 y3 y4
   unfold Zd.l0
   repeat' first | (with_reducible exact ih1 _ _ _ _ _ _ _ _) | (with_reducible exact LeO.refl _) | (with_reducible refine LeO.ite ?_ ?_)
  ·intro y0 y1 y2 y3 y4 y5 y6 y7
   unfold Zd.l1
   repeat' first | (with_reducible exact ih0 _ _ _ _ _) | (with_reducible exact ih1 _ _ _ _ _ _ _ _) | (with_reducible exact LeO.refl _) | (with_reducible refine LeO.ite ?_ ?_)
theorem Zd.mono : ∀ a0 a1 k, LeO (Zd.f k a0 a1) (Zd.f (k + 1) a0 a1) := by
 intro a0 a1 k
 obtain ⟨ih0, ih1⟩ := Zd.Jh k
 unfold Zd.f
 repeat' first | (with_reducible exact ih0 _ _ _ _ _) | (with_reducible exact LeO.refl _) | (with_reducible refine LeO.ite ?_ ?_) | (with_reducible refine LeO.bind ?_ (fun _ => ?_))
set_option maxHeartbeats 8000000 in
set_option maxRecDepth 100000 in
theorem Zd.calls (k : Nat) (A0_0 : Option Addr) (c0_0 : Nat) (l0_0 : List (List Int)) (A0_1 : Option Addr) (c0_1 : Nat) (l0_1 : List ByteArray) (r : List Int) (w : World) (hr0_0 : Kd.C (Kd.slice 3 (Kd.int .i64)) w A0_0 l0_0.length l0_0) (hc0_0 : l0_0.length ≤ c0_0) (hr0_1 : Kd.C Kd.string w A0_1 l0_1.length l0_1) (hc0_1 : l0_1.length ≤ c0_1) (h : Zd.f k l0_0 l0_1 = some r) :
  Calls Tryd.prog 44 #[.agg #[.slice A0_0 l0_0.length c0_0, .slice A0_1 l0_1.length c0_1]] w fun e w' => ∃ v0_ : Value, e = .returned (v0_) ∧ Kd.R (Kd.int .i64) 3 w' w.heap.size (fun _ => True) v0_ r ∧ Below w.heap.size w w' := by
 have hu58 := Tryd.underlying58
 have HR0_0 := Z0.mk hr0_0
 have HC0_0 := Z0.mk hc0_0
 clear hr0_0 hc0_0
 have HR0_1 := Z0.mk hr0_1
 have HC0_1 := Z0.mk hc0_1
 clear hr0_1 hc0_1
 have HB := Z0.mk (Below.refl w.heap.size w)
 have H : (if 0 ≤ (l0_0.length : Int) then (if ((l0_0.length : Int) : Int).toNat ≤ 281474976710656 then ((some (List.replicate ((l0_0.length : Int) : Int).toNat false : List Bool)).bind fun z2 => (if (z2.length : Int) = 0 then (some ([] : List Int)) else (if 0 < (z2.length : Int) then (Zd.l0 k (z2.set (0 : Int).toNat true) (([0] : List Int)) 0 l0_0 l0_1) else (none)))) else (none)) else (none)) = some r := h
 clear h
 by_cases c2 : 0 ≤ (l0_0.length : Int)
 rotate_left
 ·rw [if_neg c2] at H
  exact absurd H (by simp)
 rw [if_pos c2] at H
 have c2b0 := eq_true c2
 have c2b1 : decide (0 ≤ (l0_0.length : Int)) = true := decide_eq_true c2
 clear c2
 by_cases c3 : ((l0_0.length : Int) : Int).toNat ≤ 281474976710656
 rotate_left
 ·rw [if_neg c3] at H
  exact absurd H (by simp)
 rw [if_pos c3] at H
 have c3b0 := eq_true c3
 have c3b1 : decide (((l0_0.length : Int) : Int).toNat ≤ 281474976710656) = true := decide_eq_true c3
 clear c3
 obtain ⟨z2, zi⟩ : ∃ y_ : List Bool, y_ = (List.replicate ((l0_0.length : Int) : Int).toNat false) := ⟨_, rfl⟩
 replace H : (if (z2.length : Int) = 0 then (some ([] : List Int)) else (if 0 < (z2.length : Int) then (Zd.l0 k (z2.set (0 : Int).toNat true) (([0] : List Int)) 0 l0_0 l0_1) else (none))) = some r := by (have H2_ := (Option.bind_some _ _).symm.trans H; rw [zi]; with_reducible exact H2_)
 have zy := Z0.mk zi
 clear zi
 by_cases c4 : (z2.length : Int) = 0
 rotate_left
 ·rw [if_neg c4] at H
  have c4b0 : ((z2.length : Int) == 0) = false := beq_eq_false_iff_ne.mpr c4
  have c4b1 : ((z2.length : Int) != 0) = true := bne_iff_ne.mpr c4
  have c4b2 : ¬ (z2 = []) := fun h_ => c4 (by rw [h_]; rfl)
  obtain ⟨zv, zj⟩ : ∃ y_ : List Int, y_ = (([0] : List Int)) := ⟨_, rfl⟩
  replace H : (if 0 < (z2.length : Int) then (Zd.l0 k (z2.set (0 : Int).toNat true) zv 0 l0_0 l0_1) else (none)) = some r := by (rw [zj]; with_reducible exact H)
  have zB := Z0.mk zj
  clear zj
  by_cases c10 : 0 < (z2.length : Int)
  rotate_left
  ·rw [if_neg c10] at H
   exact absurd H (by simp)
  rw [if_pos c10] at H
  have c10b0 : decide (0 < (z2.length : Int)) = true := decide_eq_true c10
  have c10b1 : decide (0 < z2.length) = true := decide_eq_true (by omega)
  clear c10
  obtain ⟨zw, zk⟩ : ∃ y_ : List Bool, y_ = (z2.set (0 : Int).toNat true) := ⟨_, rfl⟩
  replace H : (Zd.l0 k zw zv 0 l0_0 l0_1) = some r := by (rw [zk]; with_reducible exact H)
  have zC := Z0.mk zk
  clear zk
  have H' := Z0.mk H
  clear H
  go_enter Tryd.func44, Tryd.ntmps44
  go_wp2_with (first | ((with_reducible refine ZI (N := 1) rfl ?_); (try (refine jh (by rfl) ?_; dsimp only)); refine jk ?hg (N := 1) ?hd (cs := #[.slice A0_0 l0_0.length c0_0, .slice A0_1 l0_1.length c0_1]) (t := 58) ?hr ?_; (case hd => rfl); (case hg => rfl); (case hr => (go_simp; done)); intro z4 hg w12 hbox hb; have n0_ := Z0.mk (Z9 HB.out hb); have n1_ := Z0.mk (hbox); have n2_ := Z0.mk ((by rw [hg]; exact (Z4 HB.out) : w.heap.size ≤ z4)); have n3_ := Z0.mk ((by rw [hg]; exact (Z4 HB.out) : w.heap.size ≤ z4)); clear HB; have HB := n0_; have z0 := n1_; have zD := n2_; have zE := n3_; clear n0_ n1_ n2_ n3_; clear hb hbox hg; have hcz13_0 : w12.cell? ⟨z4, 0, none⟩ = some (.slice A0_0 l0_0.length c0_0) := (Z1 z0.out 0).trans rfl; have hcz13_1 : w12.cell? ⟨z4, 1, none⟩ = some (.slice A0_1 l0_1.length c0_1) := (Z1 z0.out 1).trans rfl; have hfz13_0 := Z2 z0.out 0; have hfz13_1 := Z2 z0.out 1) | ((with_reducible refine ZI (N := 11) rfl ?_); (try (refine jh (by rfl) ?_; dsimp only)); refine Kd.zcv Kd.bool _ 4 rfl (N := 11) rfl 48 _ _ rfl (l0_0.length : Int) rfl rfl Tryd.underlying48 (.bool false) 1 info4 rfl (by decide) (by omega) false (ok := fun _ => True) (okp := fun _ => True) rfl (fun _ hk => hk) trivial (of_decide_eq_true (by (with_reducible assumption))) (Nat.le_trans (Nat.mul_le_mul_right _ (of_decide_eq_true (by (with_reducible assumption)) : (l0_0.length : Int).toNat ≤ 281474976710656)) (by omega)) (Below.refl _ _) (Nat.le_refl _) ?_; intro zI w14 ho15 hb hg_ hnew_; clear hg_ hnew_; (rw [← zy.out] at ho15); have n0_ := Z0.mk (Kd.ZL ho15 (Z4 HB.out)); have n1_ := Z0.mk (Z5 (g := z4) (o := .cells #[.slice A0_0 l0_0.length c0_0, .slice A0_1 l0_1.length c0_1] 58 (0, 0)) (z0.out) hb); have n2_ := Z0.mk (Z9 HB.out hb); clear z0; clear HB; have z3 := n0_; have z0 := n1_; have HB := n2_; clear n0_ n1_ n2_; clear hb ho15; obtain ⟨Ao16, co16, eo16⟩ := Kd.Zu z3.out; subst eo16) | ((with_reducible refine ZI (N := 15) rfl ?_); (try (refine jh (by rfl) ?_; dsimp only)); refine Kd.JL (Kd.int .i64) _ 3 ?hg (N := 15) ?hd (xs := ([0] : List Int)) (inner := [.int .i64 0]) (ok := fun _ => True) (okp := fun _ => True) ?hr ?hp (fun _ hk => hk) trivial (Below.refl _ _) (Nat.le_refl _) (by simp) ?_; (case hd => rfl); (case hg => rfl); (case hr => (go_simp; done)); (case hp => exact (ZH.one (show Kd.M (Kd.int .i64) _ _ _ 0 [.int .i64 0] from rfl) (ZH.none _ _))); intro v106 w17 ho18 hb hg_ hnew_; clear hg_ hnew_; (rw [← zB.out] at ho18); have n0_ := Z0.mk (Kd.Zf (z3.out) hb); have n1_ := Z0.mk (Kd.ZL ho18 (Z4 HB.out)); have n2_ := Z0.mk (Z5 (g := z4) (o := .cells #[.slice A0_0 l0_0.length c0_0, .slice A0_1 l0_1.length c0_1] 58 (0, 0)) (z0.out) hb); have n3_ := Z0.mk (Z9 HB.out hb); clear z3; clear z0; clear HB; have z3 := n0_; have za := n1_; have z0 := n2_; have HB := n3_; clear n0_ n1_ n2_ n3_; clear hb ho18; have p11 : 0 ≤ (0 : Int) := (by omega); have q11 : (0 : Int) < ((z2.length : Int) : Int) := of_decide_eq_true (by (with_reducible assumption)); have qi11 : (0 < z2.length) = True := eq_true (by omega); obtain ⟨go11, co11, eo11, gb11, gl11, cl11, HG11⟩ := Kd.za6 z3.out (by omega); (cases eo11); have GB11 := Z0.mk gb11; have GG11 := Z0.mk HG11; clear gb11 gl11 HG11; obtain ⟨hx11_0, hf11_0⟩ := Kd.J2 false z3.out (0 : Int) p11 q11; (try rw [show ((0 : Int)).toNat = 0 from rfl] at hx11_0); (try simp only [Nat.reduceMul, Nat.zero_mul, Nat.zero_add, Nat.reduceAdd] at hx11_0); (try rw [show ((0 : Int)).toNat = 0 from rfl] at hf11_0); (try simp only [Nat.reduceMul, Nat.zero_mul, Nat.zero_add, Nat.reduceAdd] at hf11_0); replace p11 := eq_true p11; replace q11 := eq_true q11; obtain ⟨hy19_, hz19_⟩ := Kd.J2 false z3.out (0 : Int) (by omega) (of_decide_eq_true (by (with_reducible assumption))); (try simp only [Int.reduceToNat, Int.toNat_zero, Int.toNat_ofNat, Nat.reduceMul, Nat.zero_mul, Nat.zero_add] at hy19_ hz19_); (try rw [show ((0 : Int)).toNat = 0 from rfl] at hy19_); (try rw [show ((0 : Int)).toNat = 0 from rfl] at hz19_); have HP19 := Kd.Jk z3.out (0 : Int) true) | ((with_reducible refine jI (t := 4) (p := 17) rfl ?_); (try (rw [zaf w17]; generalize hq_ : World.drewN w17 _ = w17; (try (have hx11_0 := JG hq_ hx11_0)); (try (have hf11_0 := zah hq_ hf11_0)); have n0_ := Z0.mk (Kd.R_at hq_ z3.out); have n1_ := Z0.mk (Kd.R_at hq_ za.out); have n2_ := Z0.mk (blk_at hq_ z0.out); have n3_ := Z0.mk (zb7 hq_ HB.out); clear hq_ z3 za z0 HB; have z3 := n0_; have za := n1_; have z0 := n2_; have HB := n3_; clear n0_ n1_ n2_ n3_; (try (obtain ⟨hy19_, hz19_⟩ := Kd.J2 false z3.out (0 : Int) (by omega) (of_decide_eq_true (by fail)))); (try (try simp only [Int.reduceToNat, Int.toNat_zero, Int.toNat_ofNat, Nat.reduceMul, Nat.zero_mul, Nat.zero_add] at hy19_ hz19_)); (try (try rw [show ((0 : Int)).toNat = 0 from rfl] at hy19_)); (try (try rw [show ((0 : Int)).toNat = 0 from rfl] at hz19_)); (try (have HP19 := Kd.Jk z3.out (0 : Int) true)))); refine jy (t := 4) (p := 17) (v := ?vo_w20) (w1 := (w17.setCell ⟨go11, (0 : Int).toNat, none⟩ (.bool true))) ?hg ?ho ?hn ?hr ?_; (case ho => rfl); (case hg => rfl); (case hn => rfl); (case hr => (go_simp; done)); intro w20 hw; have hg : w17.grownBy w20 (some go11) := (by rw [hw]; exact HP19.2); have hp_ : Kd.R Kd.bool 4 w20 w.heap.size (fun _ => True) (.slice (some ⟨go11, 0, none⟩) z2.length co16) zw := (by rw [hw, zC.out]; exact HP19.1); clear HP19; have n0_ := Z0.mk (Zw (g := z4) (o := .cells #[.slice A0_0 l0_0.length c0_0, .slice A0_1 l0_1.length c0_1] 58 (0, 0)) (z0.out) hg (Kd.jR z3.out z0.out (by decide))); have n1_ := Z0.mk (hp_); have n2_ := Z0.mk (Kd.J4 (v := (.slice (some ⟨go11, 0, none⟩) z2.length co16)) (za.out) (Kd.jP z3.out) (by decide) hg); have n3_ := Z0.mk ((by rw [hw]; exact ZB HB.out GB11.out : Below w.heap.size w w20)); clear z0; clear z3; clear za; clear HB; have z0 := n0_; have z3 := n1_; have za := n2_; have HB := n3_; clear n0_ n1_ n2_ n3_; clear hg hw hp_))
  repeat (go_quiet (fail); try go_wp2_with (fail))
  go_loopg [4, 5] k (fun kq v4 v5 w' => ∃ (x3_1 : List Bool) (x4_1 : List Int) (x5_1 : Int), v5 = .int .i64 x5_1 ∧ Z0 (Zd.l0 kq x3_1 x4_1 x5_1 l0_0 l0_1 = some r) ∧ Z0 (kq ≤ k) ∧ Z0 (Kd.R Kd.bool 4 w' w.heap.size (fun _ => True) (.slice (some ⟨go11, 0, none⟩) z2.length co16) x3_1) ∧ Z0 (Kd.R (Kd.int .i64) 3 w' w.heap.size (fun _ => True) v4 x4_1) ∧ Z0 (w'.heap[z4]? = some (.cells #[(.slice A0_0 l0_0.length c0_0), (.slice A0_1 l0_1.length c0_1)] 58 (0, 0))) ∧ Z0 (Below w.heap.size w w'))
  case atStart => exact ⟨(zw), (zv), (0), (by rfl), H', ⟨Nat.le_refl _⟩, ⟨z3.out⟩, ⟨za.out⟩, ⟨z0.out⟩, ⟨HB.out⟩⟩
  case round =>
   clear H'
   clear c2b0 c2b1 c3b0 c3b1 c4 c4b0 c4b1 c4b2 c10b0 c10b1 p11 q11 qi11 hcz13_0 hcz13_1 hfz13_0 hfz13_1 hx11_0
   obtain ⟨x3_1, x4_1, x5_1, rfl, HA, HK1, HO_3, HO_4, z0, HB⟩ := hrel
   have hl3_1 := (Kd.Ze HO_3.out).1
   rw [hl3_1] at HO_3
   (try simp only [hl3_1])
   (try simp only [hl3_1] at z0)
   (try simp only [hl3_1] at HO_4)
   cases gk with
   | zero => exact absurd HA.out (by simp [Zd.l0])
   | succ k1 =>
    have H := HA.out
    clear HA
    simp only [Zd.l0] at H
    by_cases c21 : x5_1 < (x4_1.length : Int)
    rotate_left
    ·rw [if_neg c21] at H
     have c21b0 : decide (x5_1 < (x4_1.length : Int)) = false := decide_eq_false c21
     clear c21
     obtain rfl := Option.some.inj H
     obtain ⟨Ao40, co40, eo40⟩ := Kd.Zu HO_4.out
     subst eo40
     go_wp2
     repeat (go_quiet (fail); try go_wp2)
     go_ret
     exact ⟨_, by rfl, HO_4.out, HB.out⟩
    rw [if_pos c21] at H
    have c21b0 : decide (x5_1 < (x4_1.length : Int)) = true := decide_eq_true c21
    clear c21
    by_cases c22 : 0 ≤ x5_1
    rotate_left
    ·rw [if_neg c22] at H
     exact absurd H (by simp)
    rw [if_pos c22] at H
    have c22b0 : decide (0 ≤ x5_1) = true := decide_eq_true c22
    clear c22
    by_cases c23 : 0 ≤ (rd x4_1 x5_1)
    rotate_left
    ·rw [if_neg c23] at H
     exact absurd H (by simp)
    rw [if_pos c23] at H
    have c23b0 : decide (0 ≤ (rd x4_1 x5_1)) = true := decide_eq_true c23
    clear c23
    by_cases c24 : (rd x4_1 x5_1) < (l0_0.length : Int)
    rotate_left
    ·rw [if_neg c24] at H
     exact absurd H (by simp)
    rw [if_pos c24] at H
    have c24b0 : decide ((rd x4_1 x5_1) < (l0_0.length : Int)) = true := decide_eq_true c24
    clear c24
    have H' := Z0.mk H
    clear H
    obtain ⟨Ao25, co25, eo25⟩ := Kd.Zu HO_4.out
    subst eo25
    have hcz26_0 : wr.cell? ⟨z4, 0, none⟩ = some (.slice A0_0 l0_0.length c0_0) := (Z1 z0.out 0).trans rfl
    have hcz26_1 : wr.cell? ⟨z4, 1, none⟩ = some (.slice A0_1 l0_1.length c0_1) := (Z1 z0.out 1).trans rfl
    have hfz26_0 := Z2 z0.out 0
    have hfz26_1 := Z2 z0.out 1
    have zl : 0 ≤ (x5_1 : Int) := of_decide_eq_true (by (with_reducible assumption))
    have zm : x5_1 < (x4_1.length : Int) := of_decide_eq_true (by (with_reducible assumption))
    obtain ⟨zO, zJ, zz⟩ := Kd.ZD (Kd.Ze HO_4.out).2.2 x5_1 zl zm
    cases zJ
    replace zl := eq_true zl
    replace zm := eq_true zm
    have zn : 0 ≤ ((rd x4_1 x5_1) : Int) := of_decide_eq_true (by (with_reducible assumption))
    have zo : (rd x4_1 x5_1) < (l0_0.length : Int) := of_decide_eq_true (by (with_reducible assumption))
    obtain ⟨zp, zM, zN, zK, zb, zg, zh⟩ := jZ HR0_0.out (rd x4_1 x5_1) zn zo
    cases zK
    replace zb := (HB.out.cell (World.block_lt_of_cell? w _ zb)).trans zb
    have zc := Z0.mk zh
    have zL := Z0.mk zg
    clear zh zg
    replace zn := eq_true zn
    replace zo := eq_true zo
    go_wp2
    repeat (go_quiet (fail); try go_wp2)
    go_loopg [4, 33] k1 (fun kq v4 v33 w' => ∃ (x3_2 : List Bool) (x4_2 : List Int) (x33_2 : Int), v33 = .int .i64 x33_2 ∧ Z0 (Zd.l1 kq x3_2 x4_2 x5_1 (Z3 l0_0 (rd x4_1 x5_1)) ((Z3 l0_0 (rd x4_1 x5_1)).length : Int) x33_2 l0_0 l0_1 = some r) ∧ Z0 (kq ≤ k1) ∧ Z0 (Kd.R Kd.bool 4 w' w.heap.size (fun _ => True) (.slice (some ⟨go11, 0, none⟩) x3_1.length co16) x3_2) ∧ Z0 (Kd.R (Kd.int .i64) 3 w' w.heap.size (fun _ => True) v4 x4_2) ∧ Z0 (w'.heap[z4]? = some (.cells #[(.slice (some zp) l0_0.length c0_0), (.slice A0_1 l0_1.length c0_1)] 58 (0, 0))) ∧ Z0 (Below w.heap.size w w'))
    case atStart => exact ⟨(x3_1), (x4_1), (0), (by rfl), H', ⟨Nat.le_refl _⟩, ⟨by (try simp only [hl3_1]); (with_reducible repeat (apply Kd.zaq)); exact HO_3.out⟩, ⟨by (try simp only [hl3_1]); (with_reducible repeat (apply Kd.zaq)); exact HO_4.out⟩, ⟨by (try simp only [hl3_1]); (with_reducible repeat (refine Jg ?_ _)); exact z0.out⟩, ⟨by repeat ((with_reducible first | exact HB.out | apply ZW))⟩⟩
    case round =>
     clear H'
     clear c21b0 c22b0 c23b0 c24b0 hcz26_0 hcz26_1 hfz26_0 hfz26_1 zz zb zl zn zm zo
     obtain ⟨x3_2, x4_2, x33_2, rfl, HA, HK2, HO_3, HO_4, z0, HB⟩ := hrel
     have hl3_2 := (Kd.Ze HO_3.out).1
     rw [hl3_2] at HO_3
     (try simp only [hl3_2])
     (try simp only [hl3_2] at z0)
     (try simp only [hl3_2] at HO_4)
     cases gk with
     | zero => exact absurd HA.out (by simp [Zd.l1])
     | succ k2 =>
      have H := HA.out
      clear HA
      simp only [Zd.l1] at H
      by_cases c27 : x33_2 < ((Z3 l0_0 (rd x4_1 x5_1)).length : Int)
      rotate_left
      ·rw [if_neg c27] at H
       have c27b0 : decide (x33_2 < ((Z3 l0_0 (rd x4_1 x5_1)).length : Int)) = false := decide_eq_false c27
       clear c27
       have H' := Z0.mk H
       clear H
       go_wp2
       repeat (go_quiet (fail); try go_wp2)
       (try simp only [← hl3_1, ← hl3_2])
       go_roundg k2
       case measure => have := HK1.out; have := HK2.out; omega
       case rel => exact ⟨(x3_2), (x4_2), (wrap64 (x5_1 + 1)), (by rfl), H', ⟨by have := HK1.out; have := HK2.out; omega⟩, ⟨by (try simp only [hl3_1]); (try simp only [hl3_2]); exact HO_3.out⟩, ⟨by (try simp only [hl3_1]); (try simp only [hl3_2]); exact HO_4.out⟩, ⟨by (try simp only [hl3_1]); (try simp only [hl3_2]); exact z0.out⟩, ⟨HB.out⟩⟩
      rw [if_pos c27] at H
      have c27b0 : decide (x33_2 < ((Z3 l0_0 (rd x4_1 x5_1)).length : Int)) = true := decide_eq_true c27
      clear c27
      by_cases c28 : 0 ≤ x33_2
      rotate_left
      ·rw [if_neg c28] at H
       exact absurd H (by simp)
      rw [if_pos c28] at H
      have c28b0 : decide (0 ≤ x33_2) = true := decide_eq_true c28
      clear c28
      by_cases c29 : x33_2 < ((Z3 l0_0 (rd x4_1 x5_1)).length : Int)
      rotate_left
      ·rw [if_neg c29] at H
       exact absurd H (by simp)
      rw [if_pos c29] at H
      have c29b0 : decide (x33_2 < ((Z3 l0_0 (rd x4_1 x5_1)).length : Int)) = true := decide_eq_true c29
      clear c29
      by_cases c30 : (rd (Z3 l0_0 (rd x4_1 x5_1)) x33_2) ≥ 0
      rotate_left
      ·rw [if_neg c30] at H
       have c30b0 : decide (0 ≤ (rd (Z3 l0_0 (rd x4_1 x5_1)) x33_2)) = false := decide_eq_false c30
       clear c30
       have H' := Z0.mk H
       clear H
       have z6 : 0 ≤ (x33_2 : Int) := of_decide_eq_true (by (with_reducible assumption))
       have z7 : x33_2 < ((Z3 l0_0 (rd x4_1 x5_1)).length : Int) := of_decide_eq_true (by (with_reducible assumption))
       obtain ⟨zq, zd, z1⟩ := Kd.ZD zc.out x33_2 z6 z7
       cases zd
       replace z1 := (HB.out.cell (World.block_lt_of_cell? w _ z1)).trans z1
       replace z6 := eq_true z6
       replace z7 := eq_true z7
       go_wp2
       repeat (go_quiet (fail); try go_wp2)
       (try simp only [← hl3_2])
       go_roundg k2
       case measure => have := HK1.out; have := HK2.out; omega
       case rel => exact ⟨(x3_2), (x4_2), (wrap64 (x33_2 + 1)), (by rfl), H', ⟨by have := HK1.out; have := HK2.out; omega⟩, ⟨by (try simp only [hl3_1]); (try simp only [hl3_2]); exact HO_3.out⟩, ⟨by (try simp only [hl3_1]); (try simp only [hl3_2]); exact HO_4.out⟩, ⟨by (try simp only [hl3_1]); (try simp only [hl3_2]); exact z0.out⟩, ⟨HB.out⟩⟩
      rw [if_pos c30] at H
      have c30b0 : decide (0 ≤ (rd (Z3 l0_0 (rd x4_1 x5_1)) x33_2)) = true := decide_eq_true c30
      clear c30
      by_cases c31 : (rd (Z3 l0_0 (rd x4_1 x5_1)) x33_2) < (x3_2.length : Int)
      rotate_left
      ·rw [if_neg c31] at H
       have c31b0 : decide ((rd (Z3 l0_0 (rd x4_1 x5_1)) x33_2) < (x3_2.length : Int)) = false := decide_eq_false c31
       clear c31
       have H' := Z0.mk H
       clear H
       have z6 : 0 ≤ (x33_2 : Int) := of_decide_eq_true (by (with_reducible assumption))
       have z7 : x33_2 < ((Z3 l0_0 (rd x4_1 x5_1)).length : Int) := of_decide_eq_true (by (with_reducible assumption))
       obtain ⟨zq, zd, z1⟩ := Kd.ZD zc.out x33_2 z6 z7
       cases zd
       replace z1 := (HB.out.cell (World.block_lt_of_cell? w _ z1)).trans z1
       replace z6 := eq_true z6
       replace z7 := eq_true z7
       go_wp2
       repeat (go_quiet (fail); try go_wp2)
       (try simp only [← hl3_2])
       go_roundg k2
       case measure => have := HK1.out; have := HK2.out; omega
       case rel => exact ⟨(x3_2), (x4_2), (wrap64 (x33_2 + 1)), (by rfl), H', ⟨by have := HK1.out; have := HK2.out; omega⟩, ⟨by (try simp only [hl3_1]); (try simp only [hl3_2]); exact HO_3.out⟩, ⟨by (try simp only [hl3_1]); (try simp only [hl3_2]); exact HO_4.out⟩, ⟨by (try simp only [hl3_1]); (try simp only [hl3_2]); exact z0.out⟩, ⟨HB.out⟩⟩
      rw [if_pos c31] at H
      have c31b0 : decide ((rd (Z3 l0_0 (rd x4_1 x5_1)) x33_2) < (x3_2.length : Int)) = true := decide_eq_true c31
      clear c31
      by_cases c32 : 0 ≤ (rd (Z3 l0_0 (rd x4_1 x5_1)) x33_2)
      rotate_left
      ·rw [if_neg c32] at H
       exact absurd H (by simp)
      rw [if_pos c32] at H
      have c32b0 : decide (0 ≤ (rd (Z3 l0_0 (rd x4_1 x5_1)) x33_2)) = true := decide_eq_true c32
      clear c32
      obtain ⟨bq33, hbq33⟩ : ∃ b_ : Bool, b_ = (Jo false x3_2 (rd (Z3 l0_0 (rd x4_1 x5_1)) x33_2)) := ⟨_, rfl⟩
      replace H : (if (bq33 = true) then (Zd.l1 k2 x3_2 x4_2 x5_1 (Z3 l0_0 (rd x4_1 x5_1)) ((Z3 l0_0 (rd x4_1 x5_1)).length : Int) (wrap64 (x33_2 + 1)) l0_0 l0_1) else (if x4_2.length < 17592186044416 then (Zd.l1 k2 (x3_2.set ((rd (Z3 l0_0 (rd x4_1 x5_1)) x33_2) : Int).toNat true) (x4_2 ++ [rd (Z3 l0_0 (rd x4_1 x5_1)) x33_2]) x5_1 (Z3 l0_0 (rd x4_1 x5_1)) ((Z3 l0_0 (rd x4_1 x5_1)).length : Int) (wrap64 (x33_2 + 1)) l0_0 l0_1) else (none))) = some r := by rw [← hbq33] at H; exact H
      have Nbq33 := Z0.mk hbq33
      clear hbq33
      by_cases c34 : (bq33 = true)
      rotate_left
      ·replace c34 := Bool.eq_false_iff.mpr c34
       subst c34
       have H1 : (if x4_2.length < 17592186044416 then (Zd.l1 k2 (x3_2.set ((rd (Z3 l0_0 (rd x4_1 x5_1)) x33_2) : Int).toNat true) (x4_2 ++ [rd (Z3 l0_0 (rd x4_1 x5_1)) x33_2]) x5_1 (Z3 l0_0 (rd x4_1 x5_1)) ((Z3 l0_0 (rd x4_1 x5_1)).length : Int) (wrap64 (x33_2 + 1)) l0_0 l0_1) else (none)) = some r := by rw [if_neg (show ¬ (false = true) by decide)] at H; exact H
       clear H
       have H := H1
       clear H1
       obtain ⟨zr, zs⟩ : ∃ y_ : List Bool, y_ = (x3_2.set ((rd (Z3 l0_0 (rd x4_1 x5_1)) x33_2) : Int).toNat true) := ⟨_, rfl⟩
       replace H : (if x4_2.length < 17592186044416 then (Zd.l1 k2 zr (x4_2 ++ [rd (Z3 l0_0 (rd x4_1 x5_1)) x33_2]) x5_1 (Z3 l0_0 (rd x4_1 x5_1)) ((Z3 l0_0 (rd x4_1 x5_1)).length : Int) (wrap64 (x33_2 + 1)) l0_0 l0_1) else (none)) = some r := by (rw [zs]; with_reducible exact H)
       have zF := Z0.mk zs
       clear zs
       by_cases c36 : x4_2.length < 17592186044416
       rotate_left
       ·rw [if_neg c36] at H
        exact absurd H (by simp)
       rw [if_pos c36] at H
       have LMc36 := Z0.mk c36
       clear c36
       obtain ⟨zA, zt⟩ : ∃ y_ : List Int, y_ = (x4_2 ++ [rd (Z3 l0_0 (rd x4_1 x5_1)) x33_2]) := ⟨_, rfl⟩
       replace H : (Zd.l1 k2 zr zA x5_1 (Z3 l0_0 (rd x4_1 x5_1)) ((Z3 l0_0 (rd x4_1 x5_1)).length : Int) (wrap64 (x33_2 + 1)) l0_0 l0_1) = some r := by (rw [zt]; with_reducible exact H)
       have zG := Z0.mk zt
       clear zt
       have H' := Z0.mk H
       clear H
       have z6 : 0 ≤ (x33_2 : Int) := of_decide_eq_true (by (with_reducible assumption))
       have z7 : x33_2 < ((Z3 l0_0 (rd x4_1 x5_1)).length : Int) := of_decide_eq_true (by (with_reducible assumption))
       obtain ⟨zq, zd, z1⟩ := Kd.ZD zc.out x33_2 z6 z7
       cases zd
       replace z1 := (HB.out.cell (World.block_lt_of_cell? w _ z1)).trans z1
       replace z6 := eq_true z6
       replace z7 := eq_true z7
       have ze : 0 ≤ ((rd (Z3 l0_0 (rd x4_1 x5_1)) x33_2) : Int) := of_decide_eq_true (by (with_reducible assumption))
       have zf : (rd (Z3 l0_0 (rd x4_1 x5_1)) x33_2) < (x3_2.length : Int) := of_decide_eq_true (by (with_reducible assumption))
       obtain ⟨zu, zx, z9⟩ := Kd.zb6 (Kd.Ze HO_3.out).2.2 (rd (Z3 l0_0 (rd x4_1 x5_1)) x33_2) ze zf
       (try rw [← Nbq33.out] at z9)
       obtain rfl : (⟨go11, 0, none⟩ : Addr) = zu := (by injection zx)
       (simp only [add_plain] at z9)
       replace ze := eq_true ze
       replace zf := eq_true zf
       have p35 : 0 ≤ ((rd (Z3 l0_0 (rd x4_1 x5_1)) x33_2) : Int) := of_decide_eq_true (by (with_reducible assumption))
       have q35 : ((rd (Z3 l0_0 (rd x4_1 x5_1)) x33_2) : Int) < ((x3_2.length : Int) : Int) := of_decide_eq_true (by (with_reducible assumption))
       obtain ⟨hx35_0, hf35_0⟩ := Kd.J2 false HO_3.out ((rd (Z3 l0_0 (rd x4_1 x5_1)) x33_2) : Int) p35 q35
       replace p35 := eq_true p35
       replace q35 := eq_true q35
       have HP37 := Kd.Jk HO_3.out ((rd (Z3 l0_0 (rd x4_1 x5_1)) x33_2) : Int) true
       go_wp2_with (first | ((with_reducible refine jI (t := 4) (p := 54) rfl ?_); (try (rw [zaf wr]; generalize hq_ : World.drewN wr _ = wr; (try (have hx35_0 := JG hq_ hx35_0)); (try (have hf35_0 := zah hq_ hf35_0)); (try (have z9 := JG hq_ z9)); (try (have z1 := JG hq_ z1)); have n0_ := Z0.mk (Kd.R_at hq_ HO_3.out); have n1_ := Z0.mk (Kd.R_at hq_ HO_4.out); have n2_ := Z0.mk (blk_at hq_ z0.out); have n3_ := Z0.mk (zb7 hq_ HB.out); clear hq_ HO_3 HO_4 z0 HB; have HO_3 := n0_; have HO_4 := n1_; have z0 := n2_; have HB := n3_; clear n0_ n1_ n2_ n3_; (try (have HP37 := Kd.Jk HO_3.out ((rd (Z3 l0_0 (rd x4_1 x5_1)) x33_2) : Int) true)))); refine jy (t := 4) (p := 54) (v := ?vo_w38) (w1 := (wr.setCell ⟨go11, ((rd (Z3 l0_0 (rd x4_1 x5_1)) x33_2) : Int).toNat, none⟩ (.bool true))) ?hg ?ho ?hn ?hr ?_; (case ho => rfl); (case hg => rfl); (case hn => rfl); (case hr => (go_simp; done)); intro w38 hw; have hg : wr.grownBy w38 (some go11) := (by rw [hw]; exact HP37.2); have hp_ : Kd.R Kd.bool 4 w38 w.heap.size (fun _ => True) (.slice (some ⟨go11, 0, none⟩) x3_2.length co16) zr := (by rw [hw, zF.out]; exact HP37.1); clear HP37; have n0_ := Z0.mk (hp_); have n1_ := Z0.mk (Kd.J4 (v := (.slice (some ⟨go11, 0, none⟩) x3_2.length co16)) (HO_4.out) (Kd.jP HO_3.out) (by decide) hg); have n2_ := Z0.mk (Zw (g := z4) (o := .cells #[.slice (some zp) l0_0.length c0_0, .slice A0_1 l0_1.length c0_1] 58 (0, 0)) (z0.out) hg (Kd.jR HO_3.out z0.out (by decide))); have n3_ := Z0.mk ((by rw [hw]; exact ZB HB.out GB11.out : Below w.heap.size w w38)); clear HO_3; clear HO_4; clear z0; clear HB; have HO_3 := n0_; have HO_4 := n1_; have z0 := n2_; have HB := n3_; clear n0_ n1_ n2_ n3_; clear hg hw hp_) | ((with_reducible refine jn (b := .append) (xs := #[.tmp 55, .tmp 57]) rfl ?_); (try (refine jh (by rfl) ?_; dsimp only)); at_builtin; refine Kd.Jc (Kd.int .i64) (w0 := w) w.heap.size rfl (.tmp 55) (.tmp 57) 22 3 (.int .i64 0) 8 rfl Tryd.underlying22 JD rfl (by decide) (by omega) u4 x4_2 (rd (Z3 l0_0 (rd x4_1 x5_1)) x33_2) [.int .i64 (rd (Z3 l0_0 (rd x4_1 x5_1)) x33_2)] (fun _ => True) (fun _ => False) rfl rfl ?aP (fun _ hk => hk.elim) ?aF ?aO ?aB ?aS ?aL ?_; (case aP => exact rfl); (case aB => exact HB.out); (case aF => exact (fun _ _ => trivial)); (case aO => exact (HO_4.out)); (case aS => exact (Z4 HB.out)); (case aL => have := LMc36.out; omega); intro v115 w39 ho hb hg hat; rw [← zG.out] at ho; have n0_ := Z0.mk (Kd.J4 (HO_3.out) (Kd.jP (HO_4.out)) (by decide) hg); have n1_ := Z0.mk (Zw (g := z4) (o := .cells #[.slice (some zp) l0_0.length c0_0, .slice A0_1 l0_1.length c0_1] 58 (0, 0)) (z0.out) hg (Kd.jR HO_4.out z0.out (by decide))); have n2_ := Z0.mk (hb); have n3_ := Z0.mk (ho); clear HO_3; clear z0; clear HB; clear HO_4; have HO_3 := n0_; have z0 := n1_; have HB := n2_; have zH := n3_; clear n0_ n1_ n2_ n3_; clear ho hb hg hat))
       repeat (go_quiet (fail); try go_wp2_with (fail))
       (try simp only [← hl3_2])
       go_roundg k2
       case measure => have := HK1.out; have := HK2.out; omega
       case rel => exact ⟨(zr), (zA), (wrap64 (x33_2 + 1)), (by rfl), H', ⟨by have := HK1.out; have := HK2.out; omega⟩, ⟨by (try simp only [hl3_1]); (try simp only [hl3_2]); exact HO_3.out⟩, ⟨by (try simp only [hl3_1]); (try simp only [hl3_2]); exact zH.out⟩, ⟨by (try simp only [hl3_1]); (try simp only [hl3_2]); exact z0.out⟩, ⟨HB.out⟩⟩
      subst c34
      have H1 : (Zd.l1 k2 x3_2 x4_2 x5_1 (Z3 l0_0 (rd x4_1 x5_1)) ((Z3 l0_0 (rd x4_1 x5_1)).length : Int) (wrap64 (x33_2 + 1)) l0_0 l0_1) = some r := by rw [if_pos rfl] at H; exact H
      clear H
      have H := H1
      clear H1
      have H' := Z0.mk H
      clear H
      have z6 : 0 ≤ (x33_2 : Int) := of_decide_eq_true (by (with_reducible assumption))
      have z7 : x33_2 < ((Z3 l0_0 (rd x4_1 x5_1)).length : Int) := of_decide_eq_true (by (with_reducible assumption))
      obtain ⟨zq, zd, z1⟩ := Kd.ZD zc.out x33_2 z6 z7
      cases zd
      replace z1 := (HB.out.cell (World.block_lt_of_cell? w _ z1)).trans z1
      replace z6 := eq_true z6
      replace z7 := eq_true z7
      have ze : 0 ≤ ((rd (Z3 l0_0 (rd x4_1 x5_1)) x33_2) : Int) := of_decide_eq_true (by (with_reducible assumption))
      have zf : (rd (Z3 l0_0 (rd x4_1 x5_1)) x33_2) < (x3_2.length : Int) := of_decide_eq_true (by (with_reducible assumption))
      obtain ⟨zu, zx, z9⟩ := Kd.zb6 (Kd.Ze HO_3.out).2.2 (rd (Z3 l0_0 (rd x4_1 x5_1)) x33_2) ze zf
      (try rw [← Nbq33.out] at z9)
      obtain rfl : (⟨go11, 0, none⟩ : Addr) = zu := (by injection zx)
      (simp only [add_plain] at z9)
      replace ze := eq_true ze
      replace zf := eq_true zf
      go_wp2
      repeat (go_quiet (fail); try go_wp2)
      (try simp only [← hl3_2])
      go_roundg k2
      case measure => have := HK1.out; have := HK2.out; omega
      case rel => exact ⟨(x3_2), (x4_2), (wrap64 (x33_2 + 1)), (by rfl), H', ⟨by have := HK1.out; have := HK2.out; omega⟩, ⟨by (try simp only [hl3_1]); (try simp only [hl3_2]); exact HO_3.out⟩, ⟨by (try simp only [hl3_1]); (try simp only [hl3_2]); exact HO_4.out⟩, ⟨by (try simp only [hl3_1]); (try simp only [hl3_2]); exact z0.out⟩, ⟨HB.out⟩⟩
 rw [if_pos c4] at H
 have c4b0 : ((z2.length : Int) == 0) = true := beq_iff_eq.mpr c4
 have c4b1 : ((z2.length : Int) != 0) = false := bne_eq_false_iff_eq.mpr c4
 clear c4
 obtain rfl := Option.some.inj H
 go_enter Tryd.func44, Tryd.ntmps44
 go_wp2_with (first | ((with_reducible refine ZI (N := 1) rfl ?_); (try (refine jh (by rfl) ?_; dsimp only)); refine jk ?hg (N := 1) ?hd (cs := #[.slice A0_0 l0_0.length c0_0, .slice A0_1 l0_1.length c0_1]) (t := 58) ?hr ?_; (case hd => rfl); (case hg => rfl); (case hr => (go_simp; done)); intro z4 hg w5 hbox hb; have n0_ := Z0.mk (Z9 HB.out hb); have n1_ := Z0.mk (hbox); have n2_ := Z0.mk ((by rw [hg]; exact (Z4 HB.out) : w.heap.size ≤ z4)); have n3_ := Z0.mk ((by rw [hg]; exact (Z4 HB.out) : w.heap.size ≤ z4)); clear HB; have HB := n0_; have z0 := n1_; have zD := n2_; have zE := n3_; clear n0_ n1_ n2_ n3_; clear hb hbox hg; have hcz6_0 : w5.cell? ⟨z4, 0, none⟩ = some (.slice A0_0 l0_0.length c0_0) := (Z1 z0.out 0).trans rfl; have hcz6_1 : w5.cell? ⟨z4, 1, none⟩ = some (.slice A0_1 l0_1.length c0_1) := (Z1 z0.out 1).trans rfl; have hfz6_0 := Z2 z0.out 0; have hfz6_1 := Z2 z0.out 1) | ((with_reducible refine ZI (N := 11) rfl ?_); (try (refine jh (by rfl) ?_; dsimp only)); refine Kd.zcv Kd.bool _ 4 rfl (N := 11) rfl 48 _ _ rfl (l0_0.length : Int) rfl rfl Tryd.underlying48 (.bool false) 1 info4 rfl (by decide) (by omega) false (ok := fun _ => True) (okp := fun _ => True) rfl (fun _ hk => hk) trivial (of_decide_eq_true (by (with_reducible assumption))) (Nat.le_trans (Nat.mul_le_mul_right _ (of_decide_eq_true (by (with_reducible assumption)) : (l0_0.length : Int).toNat ≤ 281474976710656)) (by omega)) (Below.refl _ _) (Nat.le_refl _) ?_; intro zI w7 ho8 hb hg_ hnew_; clear hg_ hnew_; (rw [← zy.out] at ho8); have n0_ := Z0.mk (Kd.ZL ho8 (Z4 HB.out)); have n1_ := Z0.mk (Z5 (g := z4) (o := .cells #[.slice A0_0 l0_0.length c0_0, .slice A0_1 l0_1.length c0_1] 58 (0, 0)) (z0.out) hb); have n2_ := Z0.mk (Z9 HB.out hb); clear z0; clear HB; have z3 := n0_; have z0 := n1_; have HB := n2_; clear n0_ n1_ n2_; clear hb ho8; obtain ⟨Ao9, co9, eo9⟩ := Kd.Zu z3.out; subst eo9))
 repeat (go_quiet (fail); try go_wp2_with (fail))
 go_ret
 exact ⟨_, by rfl, Kd.JT _ _ _ _ _, HB.out⟩
end Go.Proofs.YthpnipdoehbiaaaDoor.Pr
