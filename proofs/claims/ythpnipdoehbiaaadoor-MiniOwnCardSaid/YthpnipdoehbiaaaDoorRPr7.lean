/- Go functions as Lean functions, with contracts. -/
import Derived.Test.YthpnipdoehbiaaaDoorRSm
namespace Go.Proofs.YthpnipdoehbiaaaDoor.Pr
open Go.RowKit Go.Proofs.YthpnipdoehbiaaaDoorW.PrintWords Go.Proofs.YthpnipdoehbiaaaDoorW.PrintLast Go.Proofs.YthpnipdoehbiaaaDoorW.PrintMore
attribute [local go_sem] jF jD jQ jO jx jw jG jE
set_option linter.unusedVariables false
set_option linter.unusedSimpArgs false
mutual
def Zh.l0 : Nat → List Int → List (List Int) → Int → Int → List (List Int) → List (List (S53)) → List (List Int) → Option ((List (List Int)) × (List (List (S53))))
 | 0, _, _, _, _, _, _, _ => none
 | k + 1, x1, x14, x15, x16, zX, zt, zc => if x16 < x15 then (if 0 ≤ x16 then (if x16 < (x14.length : Int) then ((ZC.f (Z3 x14 x16)).bind fun zp => (if zc.length < 5864062014805 then (Zh.l0 k x1 x14 x15 (wrap64 (x16 + 1)) zX zt (zc ++ [zp])) else (none))) else (none)) else (none)) else (Zh.l1 k x1 zt (zt.length : Int) 0 zc ([] : List (List (S53))))
def Zh.l1 : Nat → List Int → List (List (S53)) → Int → Int → List (List Int) → List (List (S53)) → Option ((List (List Int)) × (List (List (S53))))
 | 0, _, _, _, _, _, _ => none
 | k + 1, x1, x29, x30, x31, zc, zf => if x31 < x30 then (if 0 ≤ x31 then (if x31 < (x29.length : Int) then (Zh.l2 k x1 (ZQ x29 x31) ([] : List (S53)) x29 x30 x31 x1 (x1.length : Int) 0 zc zf) else (none)) else (none)) else ((ZV.f zc).bind fun zn => ((J0.f zf).bind fun zo => (some (zn, zo))))
def Zh.l2 : Nat → List Int → List (S53) → List (S53) → List (List (S53)) → Int → Int → List Int → Int → Int → List (List Int) → List (List (S53)) → Option ((List (List Int)) × (List (List (S53))))
 | 0, _, _, _, _, _, _, _, _, _, _, _ => none
 | k + 1, x1, x9, x10, x29, x30, x31, x35, x36, x37, zc, zf => if x37 < x36 then (if 0 ≤ x37 then (if x37 < (x35.length : Int) then (if (rd x35 x37) ≥ 0 then (if (rd x35 x37) < (x9.length : Int) then (if 0 ≤ (rd x35 x37) then (if x10.length < 5864062014805 then (Zh.l2 k x1 x9 (x10 ++ [(⟨(ZZ x9 (rd x35 x37)).f0, (ZZ x9 (rd x35 x37)).f1, (ZZ x9 (rd x35 x37)).f2⟩ : S53)]) x29 x30 x31 x35 x36 (wrap64 (x37 + 1)) zc zf) else (none)) else (none)) else (Zh.l2 k x1 x9 x10 x29 x30 x31 x35 x36 (wrap64 (x37 + 1)) zc zf)) else (Zh.l2 k x1 x9 x10 x29 x30 x31 x35 x36 (wrap64 (x37 + 1)) zc zf)) else (none)) else (none)) else ((Jt.f x10).bind fun zq => (if zf.length < 5864062014805 then (Zh.l1 k x1 x29 x30 (wrap64 (x31 + 1)) zc (zf ++ [zq])) else (none)))
end
def Zh.f (k : Nat) (l0_0 : List (List Int)) (l0_1 : List (List (S53))) (l1 : List Int) : Option ((List (List Int)) × (List (List (S53)))) := Zh.l0 k l1 l0_0 (l0_0.length : Int) 0 l0_0 l0_1 ([] : List (List Int))
theorem Zh.Jh : ∀ k, (∀ y0 y1 y2 y3 y4 y5 y6, LeO (Zh.l0 k y0 y1 y2 y3 y4 y5 y6) (Zh.l0 (k + 1) y0 y1 y2 y3 y4 y5 y6)) ∧ (∀ y0 y1 y2 y3 y4 y5, LeO (Zh.l1 k y0 y1 y2 y3 y4 y5) (Zh.l1 (k + 1) y0 y1 y2 y3 y4 y5)) ∧ (∀ y0 y1 y2 y3 y4 y5 y6 y7 y8 y9 y10, LeO (Zh.l2 k y0 y1 y2 y3 y4 y5 y6 y7 y8 y9 y10) (Zh.l2 (k + 1) y0 y1 y2 y3 y4 y5 y6 y7 y8 y9 y10))
 | 0 => ⟨fun _ _ _ _ _ _ _ r h => by simp [Zh.l0] at h, fun _ _ _ _ _ _ r h => by simp [Zh.l1] at h, fun _ _ _ _ _ _ _ _ _ _ _ r h => by simp [Zh.l2] at h⟩
 | k + 1 => by
  obtain ⟨ih0, ih1, ih2⟩ := Zh.Jh k
  refine ⟨?_, ?_, ?_⟩
  ·intro y0 y1 y2 y3 y4 y5 y6
   unfold Zh.l0
   repeat' first | (with_reducible exact ih0 _ _ _ _ _ _ _) | (with_reducible exact ih1 _ _ _ _ _ _) | (with_reducible exact LeO.refl _) | (with_reducible refine LeO.ite ?_ ?_) | (with_reducible refine LeO.bind ?_ (fun _ => ?_))
  ·intro y0 y1 y2 y3 y4 y5
   unfold Zh.l1
   repeat' first | (with_reducible exact ih2 _ _ _ _ _ _ _ _ _ _ _) | (with_reducible exact LeO.refl _) | (with_reducible refine LeO.ite ?_ ?_)
  ·intro y0 y1 y2 y3 y4 y5 y6 y7 y8 y9 y10
   unfold Zh.l2
   repeat' first | (with_reducible exact ih1 _ _ _ _ _ _) | (with_reducible exact ih2 _ _ _ _ _ _ _ _ _ _ _) | (with_reducible exact LeO.refl _) | (with_reducible refine LeO.ite ?_ ?_) | (with_reducible refine LeO.bind ?_ (fun _ => ?_))
theorem Zh.mono : ∀ a0 a1 a2 k, LeO (Zh.f k a0 a1 a2) (Zh.f (k + 1) a0 a1 a2) := by
 intro a0 a1 a2 k
 obtain ⟨ih0, ih1, ih2⟩ := Zh.Jh k
 unfold Zh.f
 repeat' (with_reducible exact ih0 _ _ _ _ _ _ _)
def Zh.T5 : Bool × List (List Nat × List Nat) := (true, [([], []), ([0], [0]), ([], []), ([2], [2]), ([3], [3]), ([1, 4, 3], [1, 4]), ([0, 1, 2, 3, 4, 5], []), ([6, 5, 5, 0, 1, 2, 3, 4, 5], [5, 6])])
def Zh.B5 : List Nat := [0, 1, 0, 4, 12, 31, 63, 127]
theorem Zh.tab5 : Je .any (opsOf Tryd.f28 5) = Zh.T5 := by kernel_rfl
theorem Zh.bits5 : Jj Zh.T5.2 Zh.B5 = true := by kernel_rfl
def Zh.T17 : Bool × List (List Nat × List Nat) := (true, [([], []), ([0], [0]), ([], []), ([2], [2]), ([3], [3]), ([1, 4, 3], [1, 4]), ([0, 1, 2, 3, 4, 5], []), ([6, 5, 5, 0, 1, 2, 3, 4, 5], [5, 6])])
def Zh.B17 : List Nat := [0, 1, 0, 4, 12, 31, 63, 127]
theorem Zh.zf4 : Je .any (opsOf Tryd.f28 17) = Zh.T17 := by kernel_rfl
theorem Zh.zdq : Jj Zh.T17.2 Zh.B17 = true := by kernel_rfl
def Zh.T19 : Bool × List (List Nat × List Nat) := (true, [([], []), ([0], [0]), ([1], [1]), ([], []), ([3], [3]), ([4, 2], [4]), ([2, 5], [2, 5]), ([6, 5, 0, 1, 2, 3, 4, 5, 6], [6])])
def Zh.B19 : List Nat := [0, 1, 3, 0, 8, 31, 63, 127]
theorem Zh.tab19 : Je .any (opsOf Tryd.f28 19) = Zh.T19 := by kernel_rfl
theorem Zh.bits19 : Jj Zh.T19.2 Zh.B19 = true := by kernel_rfl
set_option maxHeartbeats 8000000 in
set_option maxRecDepth 100000 in
theorem Zh.calls (k : Nat) (A0_0 : Option Addr) (c0_0 : Nat) (l0_0 : List (List Int)) (A0_1 : Option Addr) (c0_1 : Nat) (l0_1 : List (List (S53))) (A1 : Option Addr) (c1 : Nat) (l1 : List Int) (r1 : List (List Int)) (r2 : List (List (S53))) (w : World) (hr0_0 : Kd.C (Kd.slice 3 (Kd.int .i64)) w A0_0 l0_0.length l0_0) (hc0_0 : l0_0.length ≤ c0_0) (hr0_1 : Kd.C (Kd.slice 53 k53) w A0_1 l0_1.length l0_1) (hc0_1 : l0_1.length ≤ c0_1) (hr1 : Kd.C (Kd.int .i64) w A1 l1.length l1) (hc1 : l1.length ≤ c1) (h : Zh.f k l0_0 l0_1 l1 = some (r1, r2)) :
  Calls Tryd.prog 28 #[.agg #[.slice A0_0 l0_0.length c0_0, .slice A0_1 l0_1.length c0_1], .slice A1 l1.length c1] w fun e w' => ∃ v0_ v1_ : Value, e = .returned (.agg #[v0_, v1_]) ∧ Kd.S (Kd.slice 3 (Kd.int .i64)) 22 w' w.heap.size (fun _ => True) v0_ r1 ∧ Kd.S (Kd.slice 53 k53) 42 w' w.heap.size (fun _ => True) v1_ r2 ∧ Below w.heap.size w w' := by
 have hu30 := Tryd.underlying30
 have hu53 := Tryd.underlying53
 have HR0_0 := Z0.mk hr0_0
 have HC0_0 := Z0.mk hc0_0
 clear hr0_0 hc0_0
 have HR0_1 := Z0.mk hr0_1
 have HC0_1 := Z0.mk hc0_1
 clear hr0_1 hc0_1
 have HR1 := Z0.mk hr1
 have HC1 := Z0.mk hc1
 clear hr1 hc1
 have HB := Z0.mk (Below.refl w.heap.size w)
 have H : (Zh.l0 k l1 l0_0 (l0_0.length : Int) 0 l0_0 l0_1 ([] : List (List Int))) = some (r1, r2) := h
 clear h
 have H' := Z0.mk H
 clear H
 go_enter Tryd.func28, Tryd.ntmps28
 go_wp2_with (first | ((with_reducible refine ZI (N := 2) rfl ?_); (try (refine jh (by rfl) ?_; dsimp only)); refine jk ?hg (N := 2) ?hd (cs := #[.slice A0_0 l0_0.length c0_0, .slice A0_1 l0_1.length c0_1]) (t := 30) ?hr ?_; (case hd => rfl); (case hg => rfl); (case hr => (go_simp; done)); intro z9 hg w3 hbox hb; have n0_ := Z0.mk (Z9 HB.out hb); have n1_ := Z0.mk (hbox); have n2_ := Z0.mk ((by rw [hg]; exact (Z4 HB.out) : w.heap.size ≤ z9)); have n3_ := Z0.mk ((by rw [hg]; exact (Z4 HB.out) : w.heap.size ≤ z9)); clear HB; have HB := n0_; have z2 := n1_; have yu := n2_; have yv := n3_; clear n0_ n1_ n2_ n3_; clear hb hbox hg) | ((with_reducible refine ZI (N := 4) rfl ?_); (try (refine jh (by rfl) ?_; dsimp only)); refine jk ?hg (N := 4) ?hd (cs := #[.slice none 0 0, .slice none 0 0]) (t := 30) ?hr ?_; (case hd => rfl); (case hg => rfl); (case hr => (go_simp; done)); intro z6 hg w4 hbox hb; have n0_ := Z0.mk (Z5 (g := z9) (o := .cells #[.slice A0_0 l0_0.length c0_0, .slice A0_1 l0_1.length c0_1] 30 (0, 0)) (z2.out) hb); have n1_ := Z0.mk (Z9 HB.out hb); have n2_ := Z0.mk (hbox); have n3_ := Z0.mk ((by rw [hg]; exact (Z4 HB.out) : w.heap.size ≤ z6)); have n4_ := Z0.mk ((by rw [hg]; exact (Z4 HB.out) : w.heap.size ≤ z6)); have n5_ := Z0.mk ((by rw [hg]; exact Nat.ne_of_lt (ZF (g := z9) (o := .cells #[.slice A0_0 l0_0.length c0_0, .slice A0_1 l0_1.length c0_1] 30 (0, 0)) (z2.out)) : z9 ≠ z6)); have n6_ := Z0.mk ((by rw [hg]; exact Nat.ne_of_gt (ZF (g := z9) (o := .cells #[.slice A0_0 l0_0.length c0_0, .slice A0_1 l0_1.length c0_1] 30 (0, 0)) (z2.out)) : z6 ≠ z9)); clear z2; clear HB; have z2 := n0_; have HB := n1_; have z4 := n2_; have yw := n3_; have yi := n4_; have zk := n5_; have zl := n6_; clear n0_ n1_ n2_ n3_ n4_ n5_ n6_; clear hb hbox hg) | ((with_reducible refine ZI (N := 5) rfl ?_); (try (refine jh (by rfl) ?_; dsimp only)); refine jk ?hg (N := 5) ?hd (cs := #[.slice none 0 0, .slice none 0 0]) (t := 30) ?hr ?_; (case hd => rfl); (case hg => rfl); (case hr => (go_simp; done)); intro z7 hg w5 hbox hb; have n0_ := Z0.mk (Z5 (g := z9) (o := .cells #[.slice A0_0 l0_0.length c0_0, .slice A0_1 l0_1.length c0_1] 30 (0, 0)) (z2.out) hb); have n1_ := Z0.mk (Z5 (g := z6) (o := .cells #[.slice none 0 0, .slice none 0 0] 30 (0, 0)) (z4.out) hb); have n2_ := Z0.mk (Z9 HB.out hb); have n3_ := Z0.mk (hbox); have n4_ := Z0.mk ((by rw [hg]; exact (Z4 HB.out) : w.heap.size ≤ z7)); have n5_ := Z0.mk ((by rw [hg]; exact (Z4 HB.out) : w.heap.size ≤ z7)); have n6_ := Z0.mk ((by rw [hg]; exact Nat.ne_of_lt (ZF (g := z9) (o := .cells #[.slice A0_0 l0_0.length c0_0, .slice A0_1 l0_1.length c0_1] 30 (0, 0)) (z2.out)) : z9 ≠ z7)); have n7_ := Z0.mk ((by rw [hg]; exact Nat.ne_of_gt (ZF (g := z9) (o := .cells #[.slice A0_0 l0_0.length c0_0, .slice A0_1 l0_1.length c0_1] 30 (0, 0)) (z2.out)) : z7 ≠ z9)); have n8_ := Z0.mk ((by rw [hg]; exact Nat.ne_of_lt (ZF (g := z6) (o := .cells #[.slice none 0 0, .slice none 0 0] 30 (0, 0)) (z4.out)) : z6 ≠ z7)); have n9_ := Z0.mk ((by rw [hg]; exact Nat.ne_of_gt (ZF (g := z6) (o := .cells #[.slice none 0 0, .slice none 0 0] 30 (0, 0)) (z4.out)) : z7 ≠ z6)); clear z2; clear z4; clear HB; have z2 := n0_; have z4 := n1_; have HB := n2_; have z0 := n3_; have yx := n4_; have zR := n5_; have zg := n6_; have zm := n7_; have zh := n8_; have ze := n9_; clear n0_ n1_ n2_ n3_ n4_ n5_ n6_ n7_ n8_ n9_; clear hb hbox hg; have hnb6 := zk.out; have hnc6 := zl.out; have hnb7 := zg.out; have hnc7 := zm.out; have hcz8_0 : w5.cell? ⟨z9, 0, none⟩ = some (.slice A0_0 l0_0.length c0_0) := (Z1 z2.out 0).trans rfl; have hcz8_1 : w5.cell? ⟨z9, 1, none⟩ = some (.slice A0_1 l0_1.length c0_1) := (Z1 z2.out 1).trans rfl; have hfz8_0 := Z2 z2.out 0; have hfz8_1 := Z2 z2.out 1))
 go_loopg [16] k (fun kq v16 w' => ∃ (x16_1 : Int) (z5 : List (List Int)) (z8 : Value), v16 = .int .i64 x16_1 ∧ Z0 (Zh.l0 kq l1 l0_0 (l0_0.length : Int) x16_1 l0_0 l0_1 z5 = some (r1, r2)) ∧ Z0 (kq ≤ k) ∧ Z0 (Kd.S (Kd.slice 3 (Kd.int .i64)) 22 w' w.heap.size (fun _ => True) z8 z5) ∧ Z0 (w'.heap[z9]? = some (.cells #[(.slice A0_0 l0_0.length c0_0), (.slice A0_1 l0_1.length c0_1)] 30 (0, 0))) ∧ Z0 (w'.heap[z6]? = some (.cells #[(.slice none 0 0), (.slice none 0 0)] 30 (0, 0))) ∧ Z0 (w'.heap[z7]? = some (.cells #[z8, (.slice none 0 0)] 30 (0, 0))) ∧ Z0 (Below w.heap.size w w'))
 case atStart => exact ⟨(0), (([] : List (List Int))), (.slice none 0 0), (by rfl), H', ⟨Nat.le_refl _⟩, ⟨Kd.zd2 _ _ _ _ _⟩, ⟨z2.out⟩, ⟨z4.out⟩, ⟨z0.out⟩, ⟨HB.out⟩⟩
 case round =>
  clear H'
  clear hcz8_0 hcz8_1 hfz8_0 hfz8_1
  obtain ⟨x16_1, z5, z8, rfl, HA, HK1, z1, z2, z4, z0, HB⟩ := hrel
  cases gk with
  | zero => exact absurd HA.out (by simp [Zh.l0])
  | succ k1 =>
   have H := HA.out
   clear HA
   simp only [Zh.l0] at H
   by_cases c9 : x16_1 < (l0_0.length : Int)
   rotate_left
   ·rw [if_neg c9] at H
    have c9b0 : decide (x16_1 < (l0_0.length : Int)) = false := decide_eq_false c9
    clear c9
    have H' := Z0.mk H
    clear H
    have hnb20 := zk.out
    have hnc20 := zl.out
    have hnb21 := zg.out
    have hnc21 := zm.out
    have hcz22_0 : wr.cell? ⟨z9, 0, none⟩ = some (.slice A0_0 l0_0.length c0_0) := (Z1 z2.out 0).trans rfl
    have hcz22_1 : wr.cell? ⟨z9, 1, none⟩ = some (.slice A0_1 l0_1.length c0_1) := (Z1 z2.out 1).trans rfl
    have hfz22_0 := Z2 z2.out 0
    have hfz22_1 := Z2 z2.out 1
    go_wp2
    go_loopg [31] k1 (fun kq v31 w' => ∃ (x31_2 : Int) (za : List (List (S53))) (zb : Value), v31 = .int .i64 x31_2 ∧ Z0 (Zh.l1 kq l1 l0_1 (l0_1.length : Int) x31_2 z5 za = some (r1, r2)) ∧ Z0 (kq ≤ k1) ∧ Z0 (Kd.S (Kd.slice 3 (Kd.int .i64)) 22 w' w.heap.size (fun _ => True) z8 z5) ∧ Z0 (Kd.S (Kd.slice 53 k53) 42 w' w.heap.size (fun _ => True) zb za) ∧ Z0 (w'.heap[z9]? = some (.cells #[(.slice A0_0 l0_0.length c0_0), (.slice A0_1 l0_1.length c0_1)] 30 (0, 0))) ∧ Z0 (w'.heap[z6]? = some (.cells #[(.slice none 0 0), (.slice none 0 0)] 30 (0, 0))) ∧ Z0 (w'.heap[z7]? = some (.cells #[z8, zb] 30 (0, 0))) ∧ Z0 (Below w.heap.size w w'))
    case atStart => exact ⟨(0), (([] : List (List (S53)))), (.slice none 0 0), (by rfl), H', ⟨Nat.le_refl _⟩, ⟨z1.out⟩, ⟨Kd.zd2 _ _ _ _ _⟩, ⟨z2.out⟩, ⟨z4.out⟩, ⟨z0.out⟩, ⟨HB.out⟩⟩
    case round =>
     clear H'
     clear c9b0 hcz22_0 hcz22_1 hfz22_0 hfz22_1
     obtain ⟨x31_2, za, zb, rfl, HA, HK2, z1, z3, z2, z4, z0, HB⟩ := hrel
     cases gk with
     | zero => exact absurd HA.out (by simp [Zh.l1])
     | succ k2 =>
      have H := HA.out
      clear HA
      simp only [Zh.l1] at H
      by_cases c23 : x31_2 < (l0_1.length : Int)
      rotate_left
      ·rw [if_neg c23] at H
       have c23b0 : decide (x31_2 < (l0_1.length : Int)) = false := decide_eq_false c23
       clear c23
       replace H := Option.bind_eq_some_iff.mp H
       obtain ⟨zn, yb, H⟩ := H
       replace H : ((J0.f za).bind fun zo => (some (zn, zo))) = some (r1, r2) := H
       have A43 := Z0.mk yb
       clear yb
       replace H := Option.bind_eq_some_iff.mp H
       obtain ⟨zo, yc, H⟩ := H
       replace H : (some (zn, zo)) = some (r1, r2) := H
       have A44 := Z0.mk yc
       clear yc
       simp only [Option.some.injEq, Prod.mk.injEq] at H
       obtain ⟨rfl, rfl⟩ := H
       try go_wp2
       have n0_ := Z0.mk (Kd.JI z1.out)
       have n1_ := Z0.mk (Kd.JI z3.out)
       have n2_ := Z0.mk (ZR z2.out)
       have n3_ := Z0.mk (ZR z4.out)
       have n4_ := Z0.mk (ZR z0.out)
       have n5_ := Z0.mk (jX HB.out)
       clear z1
       clear z3
       clear z2
       clear z4
       clear z0
       clear HB
       have z1 := n0_
       have z3 := n1_
       have z2 := n2_
       have z4 := n3_
       have z0 := n4_
       have HB := n5_
       clear n0_ n1_ n2_ n3_ n4_ n5_
       obtain ⟨Ao46, co46, eo46⟩ := Kd.jH z1.out
       (subst eo46)
       refine JJ (n := 8) (S := fun w' => w'.cell? ⟨z7, 0, none⟩ = some (.slice Ao46 z5.length co46) ∧ w'.cell? ⟨z7, 1, none⟩ = some (zb)) (ds := []) #[false, false, false, false, false, false, false, false] (by kernel_rfl) rfl rfl ⟨(Z1 z0.out 0).trans rfl, (Z1 z0.out 1).trans rfl⟩ (fun hHeld => ?_); refine Ja Zh.tab19 Zh.bits19 (fun HT_ HW_ => ?_)
       generalize wr.drew = w45 at z1 z3 z2 z4 z0 HB hHeld ⊢
       refine ZE (i := 0) (N := some 65) (v := ?_) (a' := ?_) #[true, false, false, false, false, false, false, false] rfl rfl (Zs HT_.out (by kernel_rfl)) (fun _ _ _ h => h) (Or.inl ⟨by rfl, ?_⟩) ?_ ?_
       rotate_left
       ·intro w'
        go_simp
        with_reducible rfl
       rotate_left
       ·simp only [n_]
        rfl
       refine ZE (i := 3) (N := some 68) (v := ?_) (a' := ?_) #[true, false, false, true, false, false, false, false] rfl rfl (Zs HT_.out (by kernel_rfl)) (fun _ _ _ h => h) (Or.inl ⟨by rfl, ?_⟩) ?_ ?_
       rotate_left
       ·intro w'
        go_simp
        with_reducible rfl
       rotate_left
       ·simp only [n_]
        rfl
       refine jC (i := 1) (N := some 66) (v := ?_) (a' := ?_) #[true, true, false, true, false, false, false, false] rfl rfl (ZS HT_.out HW_.out (by kernel_rfl)) (fun _ _ _ h => h) (Or.inl ⟨by rfl, ?_⟩) hHeld ?_ ?_
       rotate_left
       ·rintro w' ⟨s0, s1⟩
        go_simp
        with_reducible rfl
       rotate_left
       ·simp only [n_]
        rfl
       refine jC (i := 4) (N := some 69) (v := ?_) (a' := ?_) #[true, true, false, true, true, false, false, false] rfl rfl (ZS HT_.out HW_.out (by kernel_rfl)) (fun _ _ _ h => h) (Or.inl ⟨by rfl, ?_⟩) hHeld ?_ ?_
       rotate_left
       ·rintro w' ⟨s0, s1⟩
        go_simp
        with_reducible rfl
       rotate_left
       ·simp only [n_]
        rfl
       refine J1 (i := 2) (N := some 67) #[true, true, true, true, true, false, false, false] rfl rfl (jl HT_.out (by kernel_rfl)) (by decide) (fun K hK => ?_)
       refine Ju Tryd.func41 (by kernel_rfl) rfl #[.slice Ao46 z5.length co46] (by rfl) rfl rfl (by (try simp only [List.map_toArray, List.map_cons, List.map_nil]); rfl) ?_
       with_reducible refine (ZV.calls w.heap.size (fun k_ => ((((True ∧ some k_ ≠ (zb : Value).ownBlock) ∧ k_ ≠ z9) ∧ k_ ≠ z6) ∧ k_ ≠ z7)) _ _ z5 zn _ ?side1 A43.out).mono ?_
       (case side1 => exact Kd.jf (Kd.jf (Kd.jf (Kd.Jw (z1.out) (Kd.jg z3.out) (by decide)) z2.out (by decide)) z4.out (by decide)) z0.out (by decide))
       rintro e w47 ⟨yn, rfl, ho0, hb⟩
       refine ⟨_, rfl, ?_⟩
       have n0_ := Z0.mk (Kd.ZY (z3.out) hb)
       have n1_ := Z0.mk (Kd.J8 (Kd.ZG (ok' := fun k_ => True) ho0 (fun k_ hk_ => trivial)) (Nat.le_refl _))
       have n2_ := Z0.mk (Z5 (g := z9) (o := .cells #[.slice A0_0 l0_0.length c0_0, .slice A0_1 l0_1.length c0_1] 30 (0, 0)) (z2.out) hb)
       have n3_ := Z0.mk (Z5 (g := z6) (o := .cells #[.slice none 0 0, .slice none 0 0] 30 (0, 0)) (z4.out) hb)
       have n4_ := Z0.mk (Z5 (g := z7) (o := .cells #[.slice Ao46 z5.length co46, zb] 30 (0, 0)) (z0.out) hb)
       have n5_ := Z0.mk (Z9 HB.out hb)
       clear z3
       clear z2
       clear z4
       clear z0
       clear HB
       have z3 := n0_
       have zr := n1_
       have z2 := n2_
       have z4 := n3_
       have z0 := n4_
       have HB := n5_
       clear n0_ n1_ n2_ n3_ n4_ n5_
       (try clear hb)
       (try clear hb2)
       (try clear hk)
       (try clear hi)
       (try clear ho0)
       obtain ⟨Ao48, co48, eo48⟩ := Kd.jH z3.out
       (subst eo48)
       refine hK.out _ _ ⟨(Z1 z0.out 0).trans rfl, (Z1 z0.out 1).trans rfl⟩ (fun hHeld => ?_)
       clear hK K
       refine js (a' := ?_) ?_ ?_
       rotate_left
       ·show Act.put _ (some 67) _ = _
        simp only [n_]
        rfl
       refine J1 (i := 5) (N := some 70) #[true, true, true, true, true, true, false, false] rfl rfl (jl HT_.out (by kernel_rfl)) (by decide) (fun K hK => ?_)
       refine Ju Tryd.func40 (by kernel_rfl) rfl #[.slice Ao48 za.length co48] (by rfl) rfl rfl (by (try simp only [List.map_toArray, List.map_cons, List.map_nil]); rfl) ?_
       with_reducible refine (J0.calls w.heap.size (fun k_ => ((((True ∧ some k_ ≠ (yn : Value).ownBlock) ∧ k_ ≠ z9) ∧ k_ ≠ z6) ∧ k_ ≠ z7)) _ _ za zo _ ?side1 A44.out).mono ?_
       (case side1 => exact Kd.jf (Kd.jf (Kd.jf (Kd.Jw (z3.out) (Kd.jg zr.out) (by decide)) z2.out (by decide)) z4.out (by decide)) z0.out (by decide))
       rintro e w49 ⟨v231, rfl, ho0, hb⟩
       refine ⟨_, rfl, ?_⟩
       have n0_ := Z0.mk (Kd.ZY (zr.out) hb)
       have n1_ := Z0.mk (Kd.J8 (Kd.ZG (ok' := fun k_ => True) ho0 (fun k_ hk_ => trivial)) (Nat.le_refl _))
       have n2_ := Z0.mk (Z5 (g := z9) (o := .cells #[.slice A0_0 l0_0.length c0_0, .slice A0_1 l0_1.length c0_1] 30 (0, 0)) (z2.out) hb)
       have n3_ := Z0.mk (Z5 (g := z6) (o := .cells #[.slice none 0 0, .slice none 0 0] 30 (0, 0)) (z4.out) hb)
       have n4_ := Z0.mk (Z5 (g := z7) (o := .cells #[.slice Ao46 z5.length co46, .slice Ao48 za.length co48] 30 (0, 0)) (z0.out) hb)
       have n5_ := Z0.mk (Z9 HB.out hb)
       clear zr
       clear z2
       clear z4
       clear z0
       clear HB
       have zr := n0_
       have zS := n1_
       have z2 := n2_
       have z4 := n3_
       have z0 := n4_
       have HB := n5_
       clear n0_ n1_ n2_ n3_ n4_ n5_
       (try clear hb)
       (try clear hb2)
       (try clear hk)
       (try clear hi)
       (try clear ho0)
       obtain ⟨Ao50, co50, eo50⟩ := Kd.jH zS.out
       (subst eo50)
       obtain ⟨Ao51, co51, eo51⟩ := Kd.jH zr.out
       (subst eo51)
       refine hK.out _ _ ⟨(Z1 z0.out 0).trans rfl, (Z1 z0.out 1).trans rfl⟩ (fun hHeld => ?_)
       clear hK K
       refine js (a' := ?_) ?_ ?_
       rotate_left
       ·show Act.put _ (some 70) _ = _
        simp only [n_]
        rfl
       refine ZE (i := 6) (N := some 71) (v := ?_) (a' := ?_) #[true, true, true, true, true, true, true, false] rfl rfl (Zs HT_.out (by kernel_rfl)) (fun _ _ _ h => h) (Or.inl ⟨by rfl, ?_⟩) ?_ ?_
       rotate_left
       ·intro w'
        go_simp
        with_reducible rfl
       rotate_left
       ·simp only [n_]
        rfl
       refine J1 (i := 7) (N := none) #[true, true, true, true, true, true, true, true] rfl rfl (jl HT_.out (by kernel_rfl)) (by decide) (fun K hK => ?_)
       have hs52 : w49.cell? ⟨z6, 0, none⟩ = some (.slice none 0 0) := (Z1 z4.out 0).trans rfl
       have hfs52 := Z2 z4.out 0
       have hns52_0 := zk.out
       have hns52_2 := ze.out
       have hms52_0 := zl.out
       have hms52_2 := zh.out
       have hs53 : w49.cell? ⟨z6, 1, none⟩ = some (.slice none 0 0) := (Z1 z4.out 1).trans rfl
       have hfs53 := Z2 z4.out 1
       have hns53_0 := zk.out
       have hns53_2 := ze.out
       have hms53_0 := zl.out
       have hms53_2 := zh.out
       refine zap (w1 := ?_) (by rfl) rfl ?_ ?_
       rotate_left
       ·go_simp
        rfl
       refine hK.out _ _ ⟨((cell_far (p := ⟨z6, _, none⟩) ze.out _).trans (((cell_far (p := ⟨z6, _, none⟩) ze.out _).trans (hHeld.1)))), ((cell_far (p := ⟨z6, _, none⟩) ze.out _).trans (((cell_far (p := ⟨z6, _, none⟩) ze.out _).trans (hHeld.2))))⟩ (fun hHeld => ?_)
       clear hK K
       refine JZ (Jx HT_.out (by kernel_rfl)) ?_
       try go_wp2
       refine bodyPost_ret (results_cell_row rfl _ _ z6 30 #[.slice Ao51 zn.length co51, .slice Ao50 zo.length co50] (0, 0) _ rfl (by refine ZP (cs := #[.slice Ao51 zn.length co51, .slice none 0 0]) ?_ 1 _ rfl; refine ZP (cs := #[.slice none 0 0, .slice none 0 0]) ?_ 0 _ rfl; exact z4.out) Tryd.underlying30 rfl (by kernel_rfl)) rfl ?_
       exact ⟨_, _, by rfl, Kd.ZG (Kd.ZU (p := ⟨z6, 1, none⟩) (Kd.ZU (p := ⟨z6, 0, none⟩) (Kd.jf zr.out z4.out (by decide)) (fun _ hk => hk.2) (.slice Ao51 zn.length co51)) (fun _ hk => hk.2) (.slice Ao50 zo.length co50)) (fun _ hk => trivial), Kd.ZG (Kd.ZU (p := ⟨z6, 1, none⟩) (Kd.ZU (p := ⟨z6, 0, none⟩) (Kd.jf zS.out z4.out (by decide)) (fun _ hk => hk.2) (.slice Ao51 zn.length co51)) (fun _ hk => hk.2) (.slice Ao50 zo.length co50)) (fun _ hk => trivial), by repeat ((with_reducible first | exact HB.out | refine ZB ?_ yi.out))⟩
      rw [if_pos c23] at H
      have c23b0 : decide (x31_2 < (l0_1.length : Int)) = true := decide_eq_true c23
      clear c23
      by_cases c24 : 0 ≤ x31_2
      rotate_left
      ·rw [if_neg c24] at H
       exact absurd H (by simp)
      rw [if_pos c24] at H
      have c24b0 : decide (0 ≤ x31_2) = true := decide_eq_true c24
      clear c24
      by_cases c25 : x31_2 < (l0_1.length : Int)
      rotate_left
      ·rw [if_neg c25] at H
       exact absurd H (by simp)
      rw [if_pos c25] at H
      have c25b0 : decide (x31_2 < (l0_1.length : Int)) = true := decide_eq_true c25
      clear c25
      have H' := Z0.mk H
      clear H
      have zH : 0 ≤ (x31_2 : Int) := of_decide_eq_true (by (with_reducible assumption))
      have zI : x31_2 < (l0_1.length : Int) := of_decide_eq_true (by (with_reducible assumption))
      obtain ⟨zy, ys, yt, yo, zs, zD, zE⟩ := zcb HR0_1.out x31_2 zH zI
      cases yo
      replace zs := (HB.out.cell (World.block_lt_of_cell? w _ zs)).trans zs
      have zY := Z0.mk zE
      have yr := Z0.mk zD
      clear zE zD
      replace zH := eq_true zH
      replace zI := eq_true zI
      go_wp2
      go_loopg [10, 37] k2 (fun kq v10 v37 w' => ∃ (x10_3 : List (S53)) (x37_3 : Int), v37 = .int .i64 x37_3 ∧ Z0 (Zh.l2 kq l1 (ZQ l0_1 x31_2) x10_3 l0_1 (l0_1.length : Int) x31_2 l1 (l1.length : Int) x37_3 z5 za = some (r1, r2)) ∧ Z0 (kq ≤ k2) ∧ Z0 (Kd.R k53 53 w' w.heap.size (fun _ => True) v10 x10_3) ∧ Z0 (Kd.S (Kd.slice 3 (Kd.int .i64)) 22 w' w.heap.size (fun _ => True) z8 z5) ∧ Z0 (Kd.S (Kd.slice 53 k53) 42 w' w.heap.size (fun k_ => some k_ ≠ (v10 : Value).ownBlock) zb za) ∧ Z0 (w'.heap[z9]? = some (.cells #[(.slice A0_0 l0_0.length c0_0), (.slice (some zy) l0_1.length c0_1)] 30 (0, 0))) ∧ Z0 (w'.heap[z6]? = some (.cells #[(.slice none 0 0), (.slice none 0 0)] 30 (0, 0))) ∧ Z0 (w'.heap[z7]? = some (.cells #[z8, zb] 30 (0, 0))) ∧ Z0 (Below w.heap.size w w'))
      case atStart => exact ⟨(([] : List (S53))), (0), (by rfl), H', ⟨Nat.le_refl _⟩, ⟨Kd.JT _ _ _ _ _⟩, ⟨z1.out⟩, ⟨Kd.ZG z3.out (fun _ hk => (by simp [Value.ownBlock]))⟩, ⟨z2.out⟩, ⟨z4.out⟩, ⟨z0.out⟩, ⟨HB.out⟩⟩
      case round =>
       clear H'
       clear c23b0 c24b0 c25b0 zs zH zI
       obtain ⟨x10_3, x37_3, rfl, HA, HK3, HO_10, z1, z3, z2, z4, z0, HB⟩ := hrel
       cases gk with
       | zero => exact absurd HA.out (by simp [Zh.l2])
       | succ k3 =>
        have H := HA.out
        clear HA
        simp only [Zh.l2] at H
        by_cases c26 : x37_3 < (l1.length : Int)
        rotate_left
        ·rw [if_neg c26] at H
         have c26b0 : decide (x37_3 < (l1.length : Int)) = false := decide_eq_false c26
         clear c26
         replace H := Option.bind_eq_some_iff.mp H
         obtain ⟨zq, yd, H⟩ := H
         replace H : (if za.length < 5864062014805 then (Zh.l1 k3 l1 l0_1 (l0_1.length : Int) (wrap64 (x31_2 + 1)) z5 (za ++ [zq])) else (none)) = some (r1, r2) := H
         have A34 := Z0.mk yd
         clear yd
         by_cases c35 : za.length < 5864062014805
         rotate_left
         ·rw [if_neg c35] at H
          exact absurd H (by simp)
         rw [if_pos c35] at H
         have LMc35 := Z0.mk c35
         clear c35
         obtain ⟨zB, zJ⟩ : ∃ y_ : List (List (S53)), y_ = (za ++ [zq]) := ⟨_, rfl⟩
         replace H : (Zh.l1 k3 l1 l0_1 (l0_1.length : Int) (wrap64 (x31_2 + 1)) z5 zB) = some (r1, r2) := by (rw [zJ]; with_reducible exact H)
         have yj := Z0.mk zJ
         clear zJ
         have H' := Z0.mk H
         clear H
         try go_wp2
         have n0_ := Z0.mk (Kd.jt HO_10.out)
         have n1_ := Z0.mk (Kd.JI z1.out)
         have n2_ := Z0.mk (Kd.JI z3.out)
         have n3_ := Z0.mk (ZR z2.out)
         have n4_ := Z0.mk (ZR z4.out)
         have n5_ := Z0.mk (ZR z0.out)
         have n6_ := Z0.mk (jX HB.out)
         clear HO_10
         clear z1
         clear z3
         clear z2
         clear z4
         clear z0
         clear HB
         have HO_10 := n0_
         have z1 := n1_
         have z3 := n2_
         have z2 := n3_
         have z4 := n4_
         have z0 := n5_
         have HB := n6_
         clear n0_ n1_ n2_ n3_ n4_ n5_ n6_
         obtain ⟨Ao37, co37, eo37⟩ := Kd.Zu HO_10.out
         (subst eo37)
         refine JJ (n := 8) (S := fun w' => w'.cell? ⟨z7, 0, none⟩ = some (z8) ∧ w'.cell? ⟨z7, 1, none⟩ = some (zb)) (ds := [7]) #[false, false, false, false, false, false, false, false] (by kernel_rfl) rfl rfl ⟨(Z1 z0.out 0).trans rfl, (Z1 z0.out 1).trans rfl⟩ (fun hHeld => ?_); refine Ja Zh.zf4 Zh.zdq (fun HT_ HW_ => ?_)
         generalize wr.drew = w36 at HO_10 z1 z3 z2 z4 z0 HB hHeld ⊢
         refine ZE (i := 0) (N := some 57) (v := ?_) (a' := ?_) #[true, false, false, false, false, false, false, false] rfl rfl (Zs HT_.out (by kernel_rfl)) (fun _ _ _ h => h) (Or.inl ⟨by rfl, ?_⟩) ?_ ?_
         rotate_left
         ·intro w'
          go_simp
          with_reducible rfl
         rotate_left
         ·simp only [n_]
          rfl
         refine ZE (i := 2) (N := some 59) (v := ?_) (a' := ?_) #[true, false, true, false, false, false, false, false] rfl rfl (Zs HT_.out (by kernel_rfl)) (fun _ _ _ h => h) (Or.inl ⟨by rfl, ?_⟩) ?_ ?_
         rotate_left
         ·intro w'
          go_simp
          with_reducible rfl
         rotate_left
         ·simp only [n_]
          rfl
         refine jC (i := 1) (N := some 58) (v := ?_) (a' := ?_) #[true, true, true, false, false, false, false, false] rfl rfl (ZS HT_.out HW_.out (by kernel_rfl)) (fun _ _ _ h => h) (Or.inl ⟨by rfl, ?_⟩) hHeld ?_ ?_
         rotate_left
         ·rintro w' ⟨s0, s1⟩
          go_simp
          with_reducible rfl
         rotate_left
         ·simp only [n_]
          rfl
         refine J1 (i := 3) (N := some 60) #[true, true, true, true, false, false, false, false] rfl rfl (jl HT_.out (by kernel_rfl)) (by decide) (fun K hK => ?_)
         refine Ju Tryd.func39 (by kernel_rfl) rfl #[.slice Ao37 x10_3.length co37] (by rfl) rfl rfl (by (try simp only [List.map_toArray, List.map_cons, List.map_nil]); rfl) ?_
         with_reducible refine (Jt.calls _ _ x10_3 zq _ ?side1 ?side2 A34.out).mono ?_
         (case side1 => repeat (exact (Kd.Ze HO_10.out).2.2))
         (case side2 => exact (Kd.Ze HO_10.out).2.1)
         rintro e w38 ⟨v240, rfl, ho0, hb⟩
         refine ⟨_, rfl, ?_⟩
         have n0_ := Z0.mk (Kd.ZJ (HO_10.out) (Kd.Zn ho0) hb)
         have n1_ := Z0.mk (Kd.ZY (z1.out) hb)
         have n2_ := Z0.mk (Kd.jM (z3.out) (Kd.Zn ho0) hb)
         have n3_ := Z0.mk (Kd.ZL (Kd.ZO ho0 (Kd.Zv (HO_10.out))) (Z4 HB.out))
         have n4_ := Z0.mk (Z5 (g := z9) (o := .cells #[.slice A0_0 l0_0.length c0_0, .slice (some zy) l0_1.length c0_1] 30 (0, 0)) (z2.out) hb)
         have n5_ := Z0.mk (Z5 (g := z6) (o := .cells #[.slice none 0 0, .slice none 0 0] 30 (0, 0)) (z4.out) hb)
         have n6_ := Z0.mk (Z5 (g := z7) (o := .cells #[z8, zb] 30 (0, 0)) (z0.out) hb)
         have n7_ := Z0.mk (Z9 HB.out hb)
         clear HO_10
         clear z1
         clear z3
         clear z2
         clear z4
         clear z0
         clear HB
         have HO_10 := n0_
         have z1 := n1_
         have z3 := n2_
         have zz := n3_
         have z2 := n4_
         have z4 := n5_
         have z0 := n6_
         have HB := n7_
         clear n0_ n1_ n2_ n3_ n4_ n5_ n6_ n7_
         (try clear hb)
         (try clear hb2)
         (try clear hk)
         (try clear hi)
         (try clear ho0)
         obtain ⟨Ao40, co40, eo40⟩ := Kd.Zu zz.out
         (subst eo40)
         refine hK.out _ _ ⟨(Z1 z0.out 0).trans rfl, (Z1 z0.out 1).trans rfl⟩ (fun hHeld => ?_)
         clear hK K
         refine js (a' := ?_) ?_ ?_
         rotate_left
         ·show Act.put _ (some 60) _ = _
          simp only [n_]
          rfl
         refine J1 (i := 4) (N := some 61) #[true, true, true, true, true, false, false, false] rfl rfl (jl HT_.out (by kernel_rfl)) (by decide) (fun K hK => ?_)
         refine zcu (w1 := ?_) (v := ?_) (by rfl) rfl ?_ ?_
         rotate_left 2
         ·go_simp
          constructor
          ·rfl
          ·rfl
         refine hK.out _ _ ⟨(Z1 (jW z0.out _) 0).trans rfl, (Z1 (jW z0.out _) 1).trans rfl⟩ (fun hHeld => ?_)
         clear hK K
         refine js (a' := ?_) ?_ ?_
         rotate_left
         ·show Act.put _ (some 61) _ = _
          simp only [n_]
          rfl
         refine J1 (i := 5) (N := some 62) #[true, true, true, true, true, true, false, false] rfl rfl (jl HT_.out (by kernel_rfl)) (by decide) (fun K hK => ?_)
         refine Kd.zan (Kd.slice 53 k53) (w0 := w) w.heap.size (by rfl) (.tmp 58) (.tmp 61) 28 42 (.slice none 0 0) 24 rfl Tryd.underlying28 zf5 rfl (by decide) (by omega) zb za zq [.slice Ao40 zq.length co40] (fun k_ => some k_ ≠ (.slice Ao37 x10_3.length co37 : Value).ownBlock) (fun k_ => some k_ = (.slice Ao40 zq.length co40 : Value).ownBlock) rfl rfl ?aP (fun k_ hk_ => ((Kd.Z8 (ok' := fun k_ => ((fun k_ => some k_ ≠ (.slice Ao37 x10_3.length co37 : Value).ownBlock)) k_ ∧ some k_ ≠ (zb : Value).ownBlock) (Kd.ZM (zz.out) (Kd.jg z3.out) (by decide)) (fun k_ hk => ⟨hk.1.2, hk.2⟩))).1 k_ hk_.symm) ?aF ?aO ?aB ?aS ?aL ?_
         (case aP => exact Kd.ze3 (Kd.Z8 (Kd.JO rfl (Kd.Z8 (ok' := fun k_ => ((fun k_ => some k_ ≠ (.slice Ao37 x10_3.length co37 : Value).ownBlock)) k_ ∧ some k_ ≠ (zb : Value).ownBlock) (Kd.ZM (zz.out) (Kd.jg z3.out) (by decide)) (fun k_ hk => ⟨hk.1.2, hk.2⟩))) (fun _ h_ => h_)))
         (case aB => exact HB.out)
         (case aF => exact (fun k_ hk => Kd.ZK (Kd.Zv (HO_10.out)) k_ hk))
         (case aO => exact (Kd.ZG z3.out (fun k_ hk => ⟨hk.1, fun e_ => hk.2 e_⟩)))
         (case aS => exact (Z4 HB.out))
         (case aL => have := LMc35.out; omega)
         intro v243 w39 ho hb hg hat
         rw [← yj.out] at ho
         have n0_ := Z0.mk (Kd.J4 (HO_10.out) (Kd.jg (z3.out)) (by decide) hg)
         have n1_ := Z0.mk (Kd.ze4 (z1.out) (Kd.jg (z3.out)) (by decide) hg)
         have n2_ := Z0.mk (Zw (g := z9) (o := .cells #[.slice A0_0 l0_0.length c0_0, .slice (some zy) l0_1.length c0_1] 30 (0, 0)) (z2.out) hg (Kd.za2 z3.out z2.out (by decide)))
         have n3_ := Z0.mk (Zw (g := z6) (o := .cells #[.slice none 0 0, .slice none 0 0] 30 (0, 0)) (z4.out) hg (Kd.za2 z3.out z4.out (by decide)))
         have n4_ := Z0.mk (Zw (g := z7) (o := .cells #[z8, zb] 30 (0, 0)) (z0.out) hg (Kd.za2 z3.out z0.out (by decide)))
         have n5_ := Z0.mk (hb)
         have n6_ := Z0.mk (ho)
         clear HO_10
         clear z1
         clear z2
         clear z4
         clear z0
         clear HB
         clear z3
         clear zz
         have HO_10 := n0_
         have z1 := n1_
         have z2 := n2_
         have z4 := n3_
         have z0 := n4_
         have HB := n5_
         have zT := n6_
         clear n0_ n1_ n2_ n3_ n4_ n5_ n6_
         clear ho hb hg hat
         obtain ⟨Ao41, co41, eo41⟩ := Kd.jH zT.out
         (subst eo41)
         refine hK.out _ _ ⟨(Z1 z0.out 0).trans rfl, (Z1 z0.out 1).trans rfl⟩ (fun hHeld => ?_)
         clear hK K
         refine js (a' := ?_) ?_ ?_
         rotate_left
         ·show Act.put _ (some 62) _ = _
          simp only [n_]
          rfl
         refine ZE (i := 6) (N := some 63) (v := ?_) (a' := ?_) #[true, true, true, true, true, true, true, false] rfl rfl (Zs HT_.out (by kernel_rfl)) (fun _ _ _ h => h) (Or.inl ⟨by rfl, ?_⟩) ?_ ?_
         rotate_left
         ·intro w'
          go_simp
          with_reducible rfl
         rotate_left
         ·simp only [n_]
          rfl
         refine zay (i := 7) (N := none) #[true, true, true, true, true, true, true, true] rfl rfl (jl HT_.out (by kernel_rfl)) (by decide) (fun K hK => ?_)
         have hs42 : w39.cell? ⟨z7, 1, none⟩ = some (zb) := (Z1 z0.out 1).trans rfl
         have hfs42 := Z2 z0.out 1
         have hns42_0 := zg.out
         have hns42_1 := zh.out
         have hms42_0 := zm.out
         have hms42_1 := ze.out
         refine zap (w1 := ?_) (by rfl) rfl ?_ ?_
         rotate_left
         ·go_simp
          rfl
         refine hK.out _ _ ?_
         clear hK K
         refine JZ (Jx HT_.out (by kernel_rfl)) ?_
         try go_wp2
         go_roundg k3
         case measure => have := HK1.out; have := HK2.out; have := HK3.out; omega
         case rel => exact ⟨(wrap64 (x31_2 + 1)), (zB), (.slice Ao41 zB.length co41), (by rfl), H', ⟨by have := HK1.out; have := HK2.out; have := HK3.out; omega⟩, ⟨Kd.ZG (Kd.ZU (p := ⟨z7, 1, none⟩) (Kd.jf z1.out z0.out (by decide)) (fun _ hk => hk.2) (.slice Ao41 zB.length co41)) (fun _ hk => trivial)⟩, ⟨Kd.ZG (Kd.ZU (p := ⟨z7, 1, none⟩) (Kd.jf zT.out z0.out (by decide)) (fun _ hk => hk.2) (.slice Ao41 zB.length co41)) (fun _ hk => trivial)⟩, ⟨by refine ZA ?_ zg.out _; exact z2.out⟩, ⟨by refine ZA ?_ zh.out _; exact z4.out⟩, ⟨by refine ZP (cs := #[z8, zb]) ?_ 1 _ rfl; exact z0.out⟩, ⟨by repeat ((with_reducible first | exact HB.out | refine ZB ?_ zR.out))⟩⟩
        rw [if_pos c26] at H
        have c26b0 : decide (x37_3 < (l1.length : Int)) = true := decide_eq_true c26
        clear c26
        by_cases c27 : 0 ≤ x37_3
        rotate_left
        ·rw [if_neg c27] at H
         exact absurd H (by simp)
        rw [if_pos c27] at H
        have c27b0 : decide (0 ≤ x37_3) = true := decide_eq_true c27
        clear c27
        by_cases c28 : x37_3 < (l1.length : Int)
        rotate_left
        ·rw [if_neg c28] at H
         exact absurd H (by simp)
        rw [if_pos c28] at H
        have c28b0 : decide (x37_3 < (l1.length : Int)) = true := decide_eq_true c28
        clear c28
        by_cases c29 : (rd l1 x37_3) ≥ 0
        rotate_left
        ·rw [if_neg c29] at H
         have c29b0 : decide (0 ≤ (rd l1 x37_3)) = false := decide_eq_false c29
         clear c29
         have H' := Z0.mk H
         clear H
         have zi : 0 ≤ (x37_3 : Int) := of_decide_eq_true (by (with_reducible assumption))
         have zj : x37_3 < (l1.length : Int) := of_decide_eq_true (by (with_reducible assumption))
         obtain ⟨zU, zC, zd⟩ := Kd.ZD HR1.out x37_3 zi zj
         cases zC
         replace zd := (HB.out.cell (World.block_lt_of_cell? w _ zd)).trans zd
         replace zi := eq_true zi
         replace zj := eq_true zj
         go_wp2
         go_roundg k3
         case measure => have := HK1.out; have := HK2.out; have := HK3.out; omega
         case rel => exact ⟨(x10_3), (wrap64 (x37_3 + 1)), (by rfl), H', ⟨by have := HK1.out; have := HK2.out; have := HK3.out; omega⟩, ⟨HO_10.out⟩, ⟨z1.out⟩, ⟨z3.out⟩, ⟨z2.out⟩, ⟨z4.out⟩, ⟨z0.out⟩, ⟨HB.out⟩⟩
        rw [if_pos c29] at H
        have c29b0 : decide (0 ≤ (rd l1 x37_3)) = true := decide_eq_true c29
        clear c29
        by_cases c30 : (rd l1 x37_3) < ((ZQ l0_1 x31_2).length : Int)
        rotate_left
        ·rw [if_neg c30] at H
         have c30b0 : decide ((rd l1 x37_3) < ((ZQ l0_1 x31_2).length : Int)) = false := decide_eq_false c30
         clear c30
         have H' := Z0.mk H
         clear H
         have zi : 0 ≤ (x37_3 : Int) := of_decide_eq_true (by (with_reducible assumption))
         have zj : x37_3 < (l1.length : Int) := of_decide_eq_true (by (with_reducible assumption))
         obtain ⟨zU, zC, zd⟩ := Kd.ZD HR1.out x37_3 zi zj
         cases zC
         replace zd := (HB.out.cell (World.block_lt_of_cell? w _ zd)).trans zd
         replace zi := eq_true zi
         replace zj := eq_true zj
         go_wp2
         go_roundg k3
         case measure => have := HK1.out; have := HK2.out; have := HK3.out; omega
         case rel => exact ⟨(x10_3), (wrap64 (x37_3 + 1)), (by rfl), H', ⟨by have := HK1.out; have := HK2.out; have := HK3.out; omega⟩, ⟨HO_10.out⟩, ⟨z1.out⟩, ⟨z3.out⟩, ⟨z2.out⟩, ⟨z4.out⟩, ⟨z0.out⟩, ⟨HB.out⟩⟩
        rw [if_pos c30] at H
        have c30b0 : decide ((rd l1 x37_3) < ((ZQ l0_1 x31_2).length : Int)) = true := decide_eq_true c30
        clear c30
        by_cases c31 : 0 ≤ (rd l1 x37_3)
        rotate_left
        ·rw [if_neg c31] at H
         exact absurd H (by simp)
        rw [if_pos c31] at H
        have c31b0 : decide (0 ≤ (rd l1 x37_3)) = true := decide_eq_true c31
        clear c31
        by_cases c32 : x10_3.length < 5864062014805
        rotate_left
        ·rw [if_neg c32] at H
         exact absurd H (by simp)
        rw [if_pos c32] at H
        have LMc32 := Z0.mk c32
        clear c32
        obtain ⟨ye, zK⟩ : ∃ y_ : List (S53), y_ = (x10_3 ++ [(⟨(ZZ (ZQ l0_1 x31_2) (rd l1 x37_3)).f0, (ZZ (ZQ l0_1 x31_2) (rd l1 x37_3)).f1, (ZZ (ZQ l0_1 x31_2) (rd l1 x37_3)).f2⟩ : S53)]) := ⟨_, rfl⟩
        replace H : (Zh.l2 k3 l1 (ZQ l0_1 x31_2) ye l0_1 (l0_1.length : Int) x31_2 l1 (l1.length : Int) (wrap64 (x37_3 + 1)) z5 za) = some (r1, r2) := by (rw [zK]; with_reducible exact H)
        have yk := Z0.mk zK
        clear zK
        have H' := Z0.mk H
        clear H
        have zi : 0 ≤ (x37_3 : Int) := of_decide_eq_true (by (with_reducible assumption))
        have zj : x37_3 < (l1.length : Int) := of_decide_eq_true (by (with_reducible assumption))
        obtain ⟨zU, zC, zd⟩ := Kd.ZD HR1.out x37_3 zi zj
        cases zC
        replace zd := (HB.out.cell (World.block_lt_of_cell? w _ zd)).trans zd
        replace zi := eq_true zi
        replace zj := eq_true zj
        have zN : 0 ≤ ((rd l1 x37_3) : Int) := of_decide_eq_true (by (with_reducible assumption))
        have zO : (rd l1 x37_3) < ((ZQ l0_1 x31_2).length : Int) := of_decide_eq_true (by (with_reducible assumption))
        obtain ⟨yy, yp, zu, zv, zw⟩ := zcm zY.out (rd l1 x37_3) zN zO
        cases yp
        replace zu := (HB.out.cell (World.block_lt_of_cell? w _ zu)).trans zu
        replace zv := (HB.out.cell (World.block_lt_of_cell? w _ zv)).trans zv
        replace zw := (HB.out.cell (World.block_lt_of_cell? w _ zw)).trans zw
        replace zN := eq_true zN
        replace zO := eq_true zO
        go_wp2_with (((with_reducible refine jn (b := .append) (xs := #[.tmp 49, .tmp 54]) rfl ?_); (try (refine jh (by rfl) ?_; dsimp only)); at_builtin; refine Kd.Jc k53 (w0 := w) w.heap.size rfl (.tmp 49) (.tmp 54) 42 53 (.agg #[(.int .i64 0), (.int .i64 0), (.int .i64 0)]) 24 rfl Tryd.underlying42 info53 rfl (by decide) (by omega) u10 x10_3 (⟨(ZZ (ZQ l0_1 x31_2) (rd l1 x37_3)).f0, (ZZ (ZQ l0_1 x31_2) (rd l1 x37_3)).f1, (ZZ (ZQ l0_1 x31_2) (rd l1 x37_3)).f2⟩ : S53) [.int .i64 ((ZZ (ZQ l0_1 x31_2) (rd l1 x37_3)).f0), .int .i64 ((ZZ (ZQ l0_1 x31_2) (rd l1 x37_3)).f1), .int .i64 ((ZZ (ZQ l0_1 x31_2) (rd l1 x37_3)).f2)] (fun _ => True) (fun _ => False) rfl rfl ?aP (fun _ hk => hk.elim) ?aF ?aO ?aB ?aS ?aL ?_; (case aP => exact zcq _ _ _ (⟨(ZZ (ZQ l0_1 x31_2) (rd l1 x37_3)).f0, (ZZ (ZQ l0_1 x31_2) (rd l1 x37_3)).f1, (ZZ (ZQ l0_1 x31_2) (rd l1 x37_3)).f2⟩ : S53)); (case aB => exact HB.out); (case aF => exact (fun _ _ => trivial)); (case aO => exact (HO_10.out)); (case aS => exact (Z4 HB.out)); (case aL => have := LMc32.out; omega); intro v237 w33 ho hb hg hat; rw [← yk.out] at ho; have n0_ := Z0.mk (Kd.ze4 (z1.out) (Kd.jP (HO_10.out)) (by decide) hg); have n1_ := Z0.mk (Kd.zab (ok := (fun _ => True)) (Kd.ZG z3.out (fun _ hk => ⟨trivial, hk⟩)) hg hat); have n2_ := Z0.mk (Zw (g := z9) (o := .cells #[.slice A0_0 l0_0.length c0_0, .slice (some zy) l0_1.length c0_1] 30 (0, 0)) (z2.out) hg (Kd.jR HO_10.out z2.out (by decide))); have n3_ := Z0.mk (Zw (g := z6) (o := .cells #[.slice none 0 0, .slice none 0 0] 30 (0, 0)) (z4.out) hg (Kd.jR HO_10.out z4.out (by decide))); have n4_ := Z0.mk (Zw (g := z7) (o := .cells #[z8, zb] 30 (0, 0)) (z0.out) hg (Kd.jR HO_10.out z0.out (by decide))); have n5_ := Z0.mk (hb); have n6_ := Z0.mk (ho); clear z1; clear z3; clear z2; clear z4; clear z0; clear HB; clear HO_10; have z1 := n0_; have z3 := n1_; have z2 := n2_; have z4 := n3_; have z0 := n4_; have HB := n5_; have yl := n6_; clear n0_ n1_ n2_ n3_ n4_ n5_ n6_; clear ho hb hg hat))
        go_roundg k3
        case measure => have := HK1.out; have := HK2.out; have := HK3.out; omega
        case rel => exact ⟨(ye), (wrap64 (x37_3 + 1)), (by rfl), H', ⟨by have := HK1.out; have := HK2.out; have := HK3.out; omega⟩, ⟨yl.out⟩, ⟨z1.out⟩, ⟨Kd.ZG z3.out (fun _ hk => hk.2)⟩, ⟨z2.out⟩, ⟨z4.out⟩, ⟨z0.out⟩, ⟨HB.out⟩⟩
   rw [if_pos c9] at H
   have c9b0 : decide (x16_1 < (l0_0.length : Int)) = true := decide_eq_true c9
   clear c9
   by_cases c10 : 0 ≤ x16_1
   rotate_left
   ·rw [if_neg c10] at H
    exact absurd H (by simp)
   rw [if_pos c10] at H
   have c10b0 : decide (0 ≤ x16_1) = true := decide_eq_true c10
   clear c10
   by_cases c11 : x16_1 < (l0_0.length : Int)
   rotate_left
   ·rw [if_neg c11] at H
    exact absurd H (by simp)
   rw [if_pos c11] at H
   have c11b0 : decide (x16_1 < (l0_0.length : Int)) = true := decide_eq_true c11
   clear c11
   replace H := Option.bind_eq_some_iff.mp H
   obtain ⟨zp, yf, H⟩ := H
   replace H : (if z5.length < 5864062014805 then (Zh.l0 k1 l1 l0_0 (l0_0.length : Int) (wrap64 (x16_1 + 1)) l0_0 l0_1 (z5 ++ [zp])) else (none)) = some (r1, r2) := H
   have A12 := Z0.mk yf
   clear yf
   by_cases c13 : z5.length < 5864062014805
   rotate_left
   ·rw [if_neg c13] at H
    exact absurd H (by simp)
   rw [if_pos c13] at H
   have LMc13 := Z0.mk c13
   clear c13
   obtain ⟨zL, zM⟩ : ∃ y_ : List (List Int), y_ = (z5 ++ [zp]) := ⟨_, rfl⟩
   replace H : (Zh.l0 k1 l1 l0_0 (l0_0.length : Int) (wrap64 (x16_1 + 1)) l0_0 l0_1 zL) = some (r1, r2) := by (rw [zM]; with_reducible exact H)
   have ym := Z0.mk zM
   clear zM
   have H' := Z0.mk H
   clear H
   have zP : 0 ≤ (x16_1 : Int) := of_decide_eq_true (by (with_reducible assumption))
   have zQ : x16_1 < (l0_0.length : Int) := of_decide_eq_true (by (with_reducible assumption))
   obtain ⟨zV, yg, yh, yq, zx, zF, zG⟩ := jZ HR0_0.out x16_1 zP zQ
   cases yq
   replace zx := (HB.out.cell (World.block_lt_of_cell? w _ zx)).trans zx
   have zZ := Z0.mk zG
   have ya := Z0.mk zF
   clear zG zF
   replace zP := eq_true zP
   replace zQ := eq_true zQ
   try go_wp2
   have n0_ := Z0.mk (Kd.JI z1.out)
   have n1_ := Z0.mk (ZR z2.out)
   have n2_ := Z0.mk (ZR z4.out)
   have n3_ := Z0.mk (ZR z0.out)
   have n4_ := Z0.mk (jX HB.out)
   clear z1
   clear z2
   clear z4
   clear z0
   clear HB
   have z1 := n0_
   have z2 := n1_
   have z4 := n2_
   have z0 := n3_
   have HB := n4_
   clear n0_ n1_ n2_ n3_ n4_
   refine JJ (n := 8) (S := fun w' => w'.cell? ⟨z7, 0, none⟩ = some (z8) ∧ w'.cell? ⟨z7, 1, none⟩ = some (.slice none 0 0)) (ds := [7]) #[false, false, false, false, false, false, false, false] (by kernel_rfl) rfl rfl ⟨(Z1 z0.out 0).trans rfl, (Z1 z0.out 1).trans rfl⟩ (fun hHeld => ?_); refine Ja Zh.tab5 Zh.bits5 (fun HT_ HW_ => ?_)
   generalize wr.drew = w14 at z1 z2 z4 z0 HB hHeld ⊢
   refine ZE (i := 0) (N := some 20) (v := ?_) (a' := ?_) #[true, false, false, false, false, false, false, false] rfl rfl (Zs HT_.out (by kernel_rfl)) (fun _ _ _ h => h) (Or.inl ⟨by rfl, ?_⟩) ?_ ?_
   rotate_left
   ·intro w'
    go_simp
    with_reducible rfl
   rotate_left
   ·simp only [n_]
    rfl
   refine ZE (i := 2) (N := some 22) (v := ?_) (a' := ?_) #[true, false, true, false, false, false, false, false] rfl rfl (Zs HT_.out (by kernel_rfl)) (fun _ _ _ h => h) (Or.inl ⟨by rfl, ?_⟩) ?_ ?_
   rotate_left
   ·intro w'
    go_simp
    with_reducible rfl
   rotate_left
   ·simp only [n_]
    rfl
   refine jC (i := 1) (N := some 21) (v := ?_) (a' := ?_) #[true, true, true, false, false, false, false, false] rfl rfl (ZS HT_.out HW_.out (by kernel_rfl)) (fun _ _ _ h => h) (Or.inl ⟨by rfl, ?_⟩) hHeld ?_ ?_
   rotate_left
   ·rintro w' ⟨s0, s1⟩
    go_simp
    with_reducible rfl
   rotate_left
   ·simp only [n_]
    rfl
   refine J1 (i := 3) (N := some 23) #[true, true, true, true, false, false, false, false] rfl rfl (jl HT_.out (by kernel_rfl)) (by decide) (fun K hK => ?_)
   refine Ju Tryd.func33 (by kernel_rfl) rfl #[.slice yg (Z3 l0_0 x16_1).length yh] (by rfl) rfl rfl (by (try simp only [List.map_toArray, List.map_cons, List.map_nil]); rfl) ?_
   with_reducible refine (ZC.calls _ _ (Z3 l0_0 x16_1) zp _ ?side1 ?side2 A12.out).mono ?_
   (case side1 => repeat (exact (Kd.ZX zZ.out HB.out)))
   (case side2 => exact ya.out)
   rintro e w15 ⟨v222, rfl, ho0, hb⟩
   refine ⟨_, rfl, ?_⟩
   have n0_ := Z0.mk (Kd.jM (z1.out) (Kd.Zn ho0) hb)
   have n1_ := Z0.mk (Kd.ZL ho0 (Z4 HB.out))
   have n2_ := Z0.mk (Z5 (g := z9) (o := .cells #[.slice (some zV) l0_0.length c0_0, .slice A0_1 l0_1.length c0_1] 30 (0, 0)) (z2.out) hb)
   have n3_ := Z0.mk (Z5 (g := z6) (o := .cells #[.slice none 0 0, .slice none 0 0] 30 (0, 0)) (z4.out) hb)
   have n4_ := Z0.mk (Z5 (g := z7) (o := .cells #[z8, .slice none 0 0] 30 (0, 0)) (z0.out) hb)
   have n5_ := Z0.mk (Z9 HB.out hb)
   clear z1
   clear z2
   clear z4
   clear z0
   clear HB
   have z1 := n0_
   have zA := n1_
   have z2 := n2_
   have z4 := n3_
   have z0 := n4_
   have HB := n5_
   clear n0_ n1_ n2_ n3_ n4_ n5_
   (try clear hb)
   (try clear hb2)
   (try clear hk)
   (try clear hi)
   (try clear ho0)
   obtain ⟨Ao17, co17, eo17⟩ := Kd.Zu zA.out
   (subst eo17)
   refine hK.out _ _ ⟨(Z1 z0.out 0).trans rfl, (Z1 z0.out 1).trans rfl⟩ (fun hHeld => ?_)
   clear hK K
   refine js (a' := ?_) ?_ ?_
   rotate_left
   ·show Act.put _ (some 23) _ = _
    simp only [n_]
    rfl
   refine J1 (i := 4) (N := some 24) #[true, true, true, true, true, false, false, false] rfl rfl (jl HT_.out (by kernel_rfl)) (by decide) (fun K hK => ?_)
   refine zcu (w1 := ?_) (v := ?_) (by rfl) rfl ?_ ?_
   rotate_left 2
   ·go_simp
    constructor
    ·rfl
    ·rfl
   refine hK.out _ _ ⟨(Z1 (jW z0.out _) 0).trans rfl, (Z1 (jW z0.out _) 1).trans rfl⟩ (fun hHeld => ?_)
   clear hK K
   refine js (a' := ?_) ?_ ?_
   rotate_left
   ·show Act.put _ (some 24) _ = _
    simp only [n_]
    rfl
   refine J1 (i := 5) (N := some 25) #[true, true, true, true, true, true, false, false] rfl rfl (jl HT_.out (by kernel_rfl)) (by decide) (fun K hK => ?_)
   refine Kd.zan (Kd.slice 3 (Kd.int .i64)) (w0 := w) w.heap.size (by rfl) (.tmp 21) (.tmp 24) 24 22 (.slice none 0 0) 24 rfl Tryd.underlying24 zbx rfl (by decide) (by omega) z8 z5 zp [.slice Ao17 zp.length co17] (fun _ => True) (fun k_ => some k_ = (.slice Ao17 zp.length co17 : Value).ownBlock) rfl rfl ?aP (fun k_ hk_ => ((Kd.Z8 (ok' := fun k_ => ((fun _ => True)) k_ ∧ some k_ ≠ (z8 : Value).ownBlock) (Kd.ZM (zA.out) (Kd.jg z1.out) (by decide)) (fun k_ hk => ⟨trivial, hk.2⟩))).1 k_ hk_.symm) ?aF ?aO ?aB ?aS ?aL ?_
   (case aP => exact Kd.ze3 (Kd.Z8 (Kd.JO rfl (Kd.Z8 (ok' := fun k_ => ((fun _ => True)) k_ ∧ some k_ ≠ (z8 : Value).ownBlock) (Kd.ZM (zA.out) (Kd.jg z1.out) (by decide)) (fun k_ hk => ⟨trivial, hk.2⟩))) (fun _ h_ => h_)))
   (case aB => exact HB.out)
   (case aF => exact (fun _ _ => trivial))
   (case aO => exact (Kd.ZG z1.out (fun k_ hk => ⟨trivial, fun e_ => hk.2 e_⟩)))
   (case aS => exact (Z4 HB.out))
   (case aL => have := LMc13.out; omega)
   intro v225 w16 ho hb hg hat
   rw [← ym.out] at ho
   have n0_ := Z0.mk (Zw (g := z9) (o := .cells #[.slice (some zV) l0_0.length c0_0, .slice A0_1 l0_1.length c0_1] 30 (0, 0)) (z2.out) hg (Kd.za2 z1.out z2.out (by decide)))
   have n1_ := Z0.mk (Zw (g := z6) (o := .cells #[.slice none 0 0, .slice none 0 0] 30 (0, 0)) (z4.out) hg (Kd.za2 z1.out z4.out (by decide)))
   have n2_ := Z0.mk (Zw (g := z7) (o := .cells #[z8, .slice none 0 0] 30 (0, 0)) (z0.out) hg (Kd.za2 z1.out z0.out (by decide)))
   have n3_ := Z0.mk (hb)
   have n4_ := Z0.mk (ho)
   clear z2
   clear z4
   clear z0
   clear HB
   clear z1
   clear zA
   have z2 := n0_
   have z4 := n1_
   have z0 := n2_
   have HB := n3_
   have zW := n4_
   clear n0_ n1_ n2_ n3_ n4_
   clear ho hb hg hat
   obtain ⟨Ao18, co18, eo18⟩ := Kd.jH zW.out
   (subst eo18)
   refine hK.out _ _ ⟨(Z1 z0.out 0).trans rfl, (Z1 z0.out 1).trans rfl⟩ (fun hHeld => ?_)
   clear hK K
   refine js (a' := ?_) ?_ ?_
   rotate_left
   ·show Act.put _ (some 25) _ = _
    simp only [n_]
    rfl
   refine ZE (i := 6) (N := some 26) (v := ?_) (a' := ?_) #[true, true, true, true, true, true, true, false] rfl rfl (Zs HT_.out (by kernel_rfl)) (fun _ _ _ h => h) (Or.inl ⟨by rfl, ?_⟩) ?_ ?_
   rotate_left
   ·intro w'
    go_simp
    with_reducible rfl
   rotate_left
   ·simp only [n_]
    rfl
   refine zay (i := 7) (N := none) #[true, true, true, true, true, true, true, true] rfl rfl (jl HT_.out (by kernel_rfl)) (by decide) (fun K hK => ?_)
   have hs19 : w16.cell? ⟨z7, 0, none⟩ = some (z8) := (Z1 z0.out 0).trans rfl
   have hfs19 := Z2 z0.out 0
   have hns19_0 := zg.out
   have hns19_1 := zh.out
   have hms19_0 := zm.out
   have hms19_1 := ze.out
   refine zap (w1 := ?_) (by rfl) rfl ?_ ?_
   rotate_left
   ·go_simp
    rfl
   refine hK.out _ _ ?_
   clear hK K
   refine JZ (Jx HT_.out (by kernel_rfl)) ?_
   try go_wp2
   go_roundg k1
   case measure => have := HK1.out; omega
   case rel => exact ⟨(wrap64 (x16_1 + 1)), (zL), (.slice Ao18 zL.length co18), (by rfl), H', ⟨by have := HK1.out; omega⟩, ⟨Kd.ZG (Kd.ZU (p := ⟨z7, 0, none⟩) (Kd.jf zW.out z0.out (by decide)) (fun _ hk => hk.2) (.slice Ao18 zL.length co18)) (fun _ hk => trivial)⟩, ⟨by refine ZA ?_ zg.out _; exact z2.out⟩, ⟨by refine ZA ?_ zh.out _; exact z4.out⟩, ⟨by refine ZP (cs := #[z8, .slice none 0 0]) ?_ 0 _ rfl; exact z0.out⟩, ⟨by repeat ((with_reducible first | exact HB.out | refine ZB ?_ zR.out))⟩⟩
end Go.Proofs.YthpnipdoehbiaaaDoor.Pr
