/- Go functions as Lean functions, with contracts. -/
import Derived.Test.YthpnipdoehbiaaaDoorRSm
import Derived.Test.YthpnipdoehbiaaaDoorRPr13
import Derived.Test.YthpnipdoehbiaaaDoorRPr16
import Derived.Test.YthpnipdoehbiaaaDoorRPr17
import Derived.Test.YthpnipdoehbiaaaDoorRPr18
import Derived.Test.YthpnipdoehbiaaaDoorRPr20
namespace Go.Proofs.YthpnipdoehbiaaaDoor.Pr
open Go.RowKit Go.Proofs.YthpnipdoehbiaaaDoorW.PrintWords Go.Proofs.YthpnipdoehbiaaaDoorW.PrintLast Go.Proofs.YthpnipdoehbiaaaDoorW.PrintMore
attribute [local go_sem] jG jI jT jU jz jA jH jJ
set_option linter.unusedVariables false
set_option linter.unusedSimpArgs false
mutual
def Z6.l0 : Nat → List Int → Int → Int → List (List Int) → List (List (S53)) → Option ((List (List Int)) × (List (List (S53))) × List Int)
 | 0, _, _, _, _, _ => none
 | k + 1, x4, x5, x6, zc, z9 => if x6 < (x4.length : Int) then (if 0 ≤ x6 then (Z6.l1 k (x4.set (x6 : Int).toNat (-1)) x5 x6 0 zc z9) else (none)) else ((Zf.f k zc x4).bind fun zP => ((Zr.f k zc zP).bind fun zy => (Z6.l2 k zy.1 zy.2.1 0 zc z9 zy.2.2 ([] : List (List (S53))))))
def Z6.l1 : Nat → List Int → Int → Int → Int → List (List Int) → List (List (S53)) → Option ((List (List Int)) × (List (List (S53))) × List Int)
 | 0, _, _, _, _, _, _ => none
 | k + 1, x4, x5, x6, x7, zc, z9 => if x7 < x6 then (if 0 ≤ x6 then (if x6 < (x4.length : Int) then (Z6.j2 k x4 x5 x6 x7 (decide ((rd x4 x6) < 0)) zc z9) else (none)) else (none)) else (Z6.j2 k x4 x5 x6 x7 false zc z9)
def Z6.j2 : Nat → List Int → Int → Int → Int → Bool → List (List Int) → List (List (S53)) → Option ((List (List Int)) × (List (List (S53))) × List Int)
 | 0, _, _, _, _, _, _, _ => none
 | k + 1, x4, x5, x6, x7, x35, zc, z9 => if x35 = true then (if 0 ≤ x7 then (if x7 < (z9.length : Int) then (if 0 ≤ x6 then (if x6 < (z9.length : Int) then ((ZZ.f k (ZF z9 x7) (ZF z9 x6)).bind fun zQ => (if zQ = true then (if x7 < (x4.length : Int) then (if x6 < (x4.length : Int) then (Z6.l1 k (x4.set (x6 : Int).toNat (rd x4 x7)) x5 x6 (wrap64 (x7 + 1)) zc z9) else (none)) else (none)) else (Z6.l1 k x4 x5 x6 (wrap64 (x7 + 1)) zc z9))) else (none)) else (none)) else (none)) else (none)) else (if 0 ≤ x6 then (if x6 < (x4.length : Int) then (if (rd x4 x6) < 0 then (Z6.l0 k (x4.set (x6 : Int).toNat x5) (wrap64 (x5 + 1)) (wrap64 (x6 + 1)) zc z9) else (Z6.l0 k x4 x5 (wrap64 (x6 + 1)) zc z9)) else (none)) else (none))
def Z6.l2 : Nat → List Int → List Int → Int → List (List Int) → List (List (S53)) → List (List Int) → List (List (S53)) → Option ((List (List Int)) × (List (List (S53))) × List Int)
 | 0, _, _, _, _, _, _, _ => none
 | k + 1, x8, x9, x12, zc, z9, y2, zR => if x12 < (x9.length : Int) then ((some (([] : List (S53)) : List (S53))).bind fun zz => (if 0 ≤ x12 then (if 0 ≤ (rd x9 x12) then (if (rd x9 x12) < (z9.length : Int) then (if zz.length + (ZF z9 (rd x9 x12)).length < 5864062014805 then (if zR.length < 5864062014805 then (Z6.l2 k x8 x9 (wrap64 (x12 + 1)) zc z9 y2 (zR ++ [(zz ++ (ZF z9 (rd x9 x12)))])) else (none)) else (none)) else (none)) else (none)) else (none))) else ((Zi.f k zc).bind fun zS => ((ZR.f k x8 zS).bind fun zT => (some (y2, zR, zT))))
end
def Z6.f (k : Nat) (l0_0 : List (List Int)) (l0_1 : List (List (S53))) : Option ((List (List Int)) × (List (List (S53))) × List Int) := if 0 ≤ (l0_0.length : Int) then (if ((l0_0.length : Int) : Int).toNat ≤ 35184372088832 then (Z6.l0 k (List.replicate ((l0_0.length : Int) : Int).toNat 0) 0 0 l0_0 l0_1) else (none)) else (none)
def Z6.T10 : Bool × List (List Nat × List Nat) := (true, [([], []), ([0], [0]), ([], []), ([1, 2], [1, 2]), ([3], [3]), ([], []), ([5], [5]), ([], []), ([6, 7], [6, 7]), ([8], [8]), ([4, 9], [4, 9])])
def Z6.B10 : List Nat := [0, 1, 0, 7, 15, 0, 32, 0, 224, 480, 1023]
theorem Z6.zf2 : Jc .any (opsOf Tryd.f19 10) = Z6.T10 := by kernel_rfl
theorem Z6.zdp : Ja Z6.T10.2 Z6.B10 = true := by kernel_rfl
def Z6.T15 : Bool × List (List Nat × List Nat) := (true, [([], []), ([0], [0]), ([], []), ([2], [2]), ([], []), ([3, 4], [3, 4]), ([1, 5, 5], [1, 5]), ([6], [6]), ([7], [7]), ([7], [7]), ([7], [7]), ([8, 6, 0, 1, 2, 3, 4, 5, 6, 7, 8], [8]), ([9, 11, 0, 1, 2, 3, 4, 5, 6, 7, 8, 9, 11], [9]), ([10, 12, 0, 1, 2, 3, 4, 5, 6, 7, 8, 9, 10, 11, 12], [10])])
def Z6.B15 : List Nat := [0, 1, 0, 4, 0, 28, 63, 127, 255, 255, 255, 511, 3071, 8191]
theorem Z6.zbw : Jc .any (opsOf Tryd.f19 15) = Z6.T15 := by kernel_rfl
theorem Z6.zb4 : Ja Z6.T15.2 Z6.B15 = true := by kernel_rfl
def Z6.T20 : Bool × List (List Nat × List Nat) := (true, [([], []), ([0], [0]), ([], []), ([], []), ([3], [3]), ([], []), ([], []), ([5, 6], [5, 6]), ([7], [7]), ([4, 8], [4, 8]), ([9], [9]), ([2, 10], [2, 10]), ([11], [11]), ([1, 12, 11], [1, 12]), ([0, 1, 2, 3, 4, 5, 6, 7, 8, 9, 10, 11, 12, 13], []), ([14, 13, 13, 0, 1, 2, 3, 4, 5, 6, 7, 8, 9, 10, 11, 12, 13], [13, 14])])
def Z6.B20 : List Nat := [0, 1, 0, 0, 8, 0, 0, 96, 224, 504, 1016, 2044, 4092, 8191, 16383, 32767]
theorem Z6.tab20 : Jc .any (opsOf Tryd.f19 20) = Z6.T20 := by kernel_rfl
theorem Z6.zh2 : Ja Z6.T20.2 Z6.B20 = true := by kernel_rfl
def Z6.T21 : Bool × List (List Nat × List Nat) := (true, [([], []), ([], []), ([], []), ([2], [2]), ([3], [3]), ([1, 4, 4], [1, 4]), ([0, 5, 0], [0]), ([5, 6, 0, 1, 2, 3, 4, 5, 6], [5])])
def Z6.B21 : List Nat := [0, 0, 0, 4, 12, 30, 63, 127]
theorem Z6.tab21 : Jc .any (opsOf Tryd.f19 21) = Z6.T21 := by kernel_rfl
theorem Z6.zgi : Ja Z6.T21.2 Z6.B21 = true := by kernel_rfl
set_option maxHeartbeats 8000000 in
set_option maxRecDepth 100000 in
theorem Z6.calls (k : Nat) (A0_0 : Option Addr) (c0_0 : Nat) (l0_0 : List (List Int)) (A0_1 : Option Addr) (c0_1 : Nat) (l0_1 : List (List (S53))) (r1 : List (List Int)) (r2 : List (List (S53))) (r3 : List Int) (w : World) (hr0_0 : Kd.C (Kd.slice 3 (Kd.int .i64)) w A0_0 l0_0.length l0_0) (hc0_0 : l0_0.length ≤ c0_0) (hr0_1 : Kd.C (Kd.slice 53 k53) w A0_1 l0_1.length l0_1) (hc0_1 : l0_1.length ≤ c0_1) (h : Z6.f k l0_0 l0_1 = some (r1, r2, r3)) :
  Calls Tryd.prog 19 #[.agg #[.slice A0_0 l0_0.length c0_0, .slice A0_1 l0_1.length c0_1]] w fun e w' => ∃ v0_ v1_ v2_ : Value, e = .returned (.tuple #[.agg #[v0_, v1_], v2_]) ∧ Kd.S (Kd.slice 3 (Kd.int .i64)) 22 w' w.heap.size (fun k_ => some k_ ≠ (v2_ : Value).ownBlock) v0_ r1 ∧ Kd.S (Kd.slice 53 k53) 42 w' w.heap.size (fun _ => True) v1_ r2 ∧ Kd.R (Kd.int .i64) 3 w' w.heap.size (fun _ => True) v2_ r3 ∧ Below w.heap.size w w' := by
 have hu30 := Tryd.underlying30
 have HR0_0 := Z0.mk hr0_0
 have HC0_0 := Z0.mk hc0_0
 clear hr0_0 hc0_0
 have HR0_1 := Z0.mk hr0_1
 have HC0_1 := Z0.mk hc0_1
 clear hr0_1 hc0_1
 have HB := Z0.mk (Below.refl w.heap.size w)
 have H : (if 0 ≤ (l0_0.length : Int) then (if ((l0_0.length : Int) : Int).toNat ≤ 35184372088832 then (Z6.l0 k (List.replicate ((l0_0.length : Int) : Int).toNat 0) 0 0 l0_0 l0_1) else (none)) else (none)) = some (r1, r2, r3) := h
 clear h
 by_cases c2 : 0 ≤ (l0_0.length : Int)
 rotate_left
 ·rw [if_neg c2] at H
  exact absurd H (by simp)
 rw [if_pos c2] at H
 have c2b0 := eq_true c2
 have c2b1 : decide (0 ≤ (l0_0.length : Int)) = true := decide_eq_true c2
 clear c2
 by_cases c3 : ((l0_0.length : Int) : Int).toNat ≤ 35184372088832
 rotate_left
 ·rw [if_neg c3] at H
  exact absurd H (by simp)
 rw [if_pos c3] at H
 have c3b0 := eq_true c3
 have c3b1 : decide (((l0_0.length : Int) : Int).toNat ≤ 35184372088832) = true := decide_eq_true c3
 clear c3
 obtain ⟨yA, y7⟩ : ∃ y_ : List Int, y_ = (List.replicate ((l0_0.length : Int) : Int).toNat 0) := ⟨_, rfl⟩
 replace H : (Z6.l0 k yA 0 0 l0_0 l0_1) = some (r1, r2, r3) := by (rw [y7]; with_reducible exact H)
 have yI := Z0.mk y7
 clear y7
 have H' := Z0.mk H
 clear H
 go_enter Tryd.func19, Tryd.ntmps19
 go_wp2_with (first | ((with_reducible refine ZK (N := 1) rfl ?_); refine jc ?hg (N := 1) ?hd (cs := #[.slice A0_0 l0_0.length c0_0, .slice A0_1 l0_1.length c0_1]) (t := 30) ?hr ?_; (case hd => rfl); (case hg => rfl); (case hr => (go_simp; done)); intro z6 hg w4 hbox hb; have n0_ := Z0.mk (Zc HB.out hb); have n1_ := Z0.mk (hbox); have n2_ := Z0.mk ((by rw [hg]; exact (Z4 HB.out) : w.heap.size ≤ z6)); have n3_ := Z0.mk ((by rw [hg]; exact (Z4 HB.out) : w.heap.size ≤ z6)); clear HB; have HB := n0_; have z0 := n1_; have j6 := n2_; have j7 := n3_; clear n0_ n1_ n2_ n3_; clear hb hbox hg) | ((with_reducible refine ZK (N := 2) rfl ?_); refine jc ?hg (N := 2) ?hd (cs := #[.slice none 0 0, .slice none 0 0]) (t := 30) ?hr ?_; (case hd => rfl); (case hg => rfl); (case hr => (go_simp; done)); intro z5 hg w5 hbox hb; have n0_ := Z0.mk (Z5 (g := z6) (o := .cells #[.slice A0_0 l0_0.length c0_0, .slice A0_1 l0_1.length c0_1] 30 (0, 0)) (z0.out) hb); have n1_ := Z0.mk (Zc HB.out hb); have n2_ := Z0.mk (hbox); have n3_ := Z0.mk ((by rw [hg]; exact (Z4 HB.out) : w.heap.size ≤ z5)); have n4_ := Z0.mk ((by rw [hg]; exact (Z4 HB.out) : w.heap.size ≤ z5)); have n5_ := Z0.mk ((by rw [hg]; exact Nat.ne_of_lt (ZH (g := z6) (o := .cells #[.slice A0_0 l0_0.length c0_0, .slice A0_1 l0_1.length c0_1] 30 (0, 0)) (z0.out)) : z6 ≠ z5)); have n6_ := Z0.mk ((by rw [hg]; exact Nat.ne_of_gt (ZH (g := z6) (o := .cells #[.slice A0_0 l0_0.length c0_0, .slice A0_1 l0_1.length c0_1] 30 (0, 0)) (z0.out)) : z5 ≠ z6)); clear z0; clear HB; have z0 := n0_; have HB := n1_; have z1 := n2_; have j8 := n3_; have yJ := n4_; have zi := n5_; have zA := n6_; clear n0_ n1_ n2_ n3_ n4_ n5_ n6_; clear hb hbox hg; have hnb6 := zi.out; have hnc6 := zA.out; have hcz7_0 : w5.cell? ⟨z6, 0, none⟩ = some (.slice A0_0 l0_0.length c0_0) := (Z1 z0.out 0).trans rfl; have hcz7_1 : w5.cell? ⟨z6, 1, none⟩ = some (.slice A0_1 l0_1.length c0_1) := (Z1 z0.out 1).trans rfl; have hfz7_0 := Z2 z0.out 0; have hfz7_1 := Z2 z0.out 1) | ((with_reducible refine ZK (N := 16) rfl ?_); refine Kd.zcd (Kd.int .i64) _ 3 rfl (N := 16) rfl 22 _ _ rfl (l0_0.length : Int) rfl rfl Tryd.underlying22 (.int .i64 0) 8 Jx rfl (by decide) (by omega) 0 (ok := fun _ => True) (okp := fun _ => True) rfl (fun _ hk => hk) trivial (of_decide_eq_true (by (with_reducible assumption))) (Nat.le_trans (Nat.mul_le_mul_right _ (of_decide_eq_true (by (with_reducible assumption)) : (l0_0.length : Int).toNat ≤ 35184372088832)) (by omega)) (Below.refl _ _) (Nat.le_refl _) ?_; intro yV w8 ho9 hb hg_ hnew_; clear hg_ hnew_; (rw [← yI.out] at ho9); have n0_ := Z0.mk (Kd.ZS ho9 (Z4 HB.out)); have n1_ := Z0.mk (Z5 (g := z6) (o := .cells #[.slice A0_0 l0_0.length c0_0, .slice A0_1 l0_1.length c0_1] 30 (0, 0)) (z0.out) hb); have n2_ := Z0.mk (Z5 (g := z5) (o := .cells #[.slice none 0 0, .slice none 0 0] 30 (0, 0)) (z1.out) hb); have n3_ := Z0.mk (Zc HB.out hb); clear z0; clear z1; clear HB; have yK := n0_; have z0 := n1_; have z1 := n2_; have HB := n3_; clear n0_ n1_ n2_ n3_; clear hb ho9))
 go_loopg [5, 6] k (fun kq v5 v6 w' => ∃ (x4_1 : List Int) (x5_1 : Int) (x6_1 : Int), v5 = .int .i64 x5_1 ∧ v6 = .int .i64 x6_1 ∧ Z0 (Z6.l0 kq x4_1 x5_1 x6_1 l0_0 l0_1 = some (r1, r2, r3)) ∧ Z0 (kq ≤ k) ∧ Z0 (Kd.R (Kd.int .i64) 3 w' w.heap.size (fun _ => True) yV x4_1) ∧ Z0 (w'.heap[z6]? = some (.cells #[(.slice A0_0 l0_0.length c0_0), (.slice A0_1 l0_1.length c0_1)] 30 (0, 0))) ∧ Z0 (w'.heap[z5]? = some (.cells #[(.slice none 0 0), (.slice none 0 0)] 30 (0, 0))) ∧ Z0 (Below w.heap.size w w'))
 case atStart => exact ⟨(yA), (0), (0), (by rfl), (by rfl), H', ⟨Nat.le_refl _⟩, ⟨yK.out⟩, ⟨z0.out⟩, ⟨z1.out⟩, ⟨HB.out⟩⟩
 case round =>
  clear H'
  clear c2b0 c2b1 c3b0 c3b1 hcz7_0 hcz7_1 hfz7_0 hfz7_1
  obtain ⟨x4_1, x5_1, x6_1, rfl, rfl, HA, HK1, HO_4, z0, z1, HB⟩ := hrel
  cases gk with
  | zero => exact absurd HA.out (by simp [Z6.l0])
  | succ k1 =>
   have H := HA.out
   clear HA
   simp only [Z6.l0] at H
   by_cases c10 : x6_1 < (x4_1.length : Int)
   rotate_left
   ·rw [if_neg c10] at H
    have c10b0 : decide (x6_1 < (x4_1.length : Int)) = false := decide_eq_false c10
    clear c10
    replace H := Option.bind_eq_some_iff.mp H
    obtain ⟨zP, yB, H⟩ := H
    replace H : ((Zr.f k1 l0_0 zP).bind fun zy => (Z6.l2 k1 zy.1 zy.2.1 0 l0_0 l0_1 zy.2.2 ([] : List (List (S53))))) = some (r1, r2, r3) := H
    have A40 := Z0.mk yB
    clear yB
    replace H := Option.bind_eq_some_iff.mp H
    obtain ⟨⟨zq, za, zb⟩, yC, H⟩ := H
    replace H : (Z6.l2 k1 zq za 0 l0_0 l0_1 zb ([] : List (List (S53)))) = some (r1, r2, r3) := H
    have A41 := Z0.mk yC
    clear yC
    have H' := Z0.mk H
    clear H
    obtain ⟨Ao42, co42, eo42⟩ := Kd.ZC HO_4.out
    subst eo42
    try go_wp2
    have n0_ := Z0.mk (Kd.jv HO_4.out)
    have n1_ := Z0.mk (ZV z0.out)
    have n2_ := Z0.mk (ZV z1.out)
    have n3_ := Z0.mk (jM HB.out)
    clear HO_4
    clear z0
    clear z1
    clear HB
    have HO_4 := n0_
    have z0 := n1_
    have z1 := n2_
    have HB := n3_
    clear n0_ n1_ n2_ n3_
    refine Jq (n := 14) (S := fun w' => w'.cell? ⟨z6, 0, none⟩ = some (.slice A0_0 l0_0.length c0_0) ∧ w'.cell? ⟨z6, 1, none⟩ = some (.slice A0_1 l0_1.length c0_1)) (ds := []) #[false, false, false, false, false, false, false, false, false, false, false, false, false, false] (by kernel_rfl) rfl rfl ⟨(Z1 z0.out 0).trans rfl, (Z1 z0.out 1).trans rfl⟩ (fun hHeld => ?_); refine J1 Z6.zbw Z6.zb4 (fun HT_ HW_ => ?_)
    generalize wr.drew = w43 at HO_4 z0 z1 HB hHeld ⊢
    refine ZD (i := 0) (N := some 68) (v := ?_) (a' := ?_) #[true, false, false, false, false, false, false, false, false, false, false, false, false, false] rfl rfl (Zw HT_.out (by kernel_rfl)) (fun _ _ _ h => h) (Or.inl ⟨by rfl, ?_⟩) ?_ ?_
    rotate_left
    ·intro w'
     go_simp
     with_reducible rfl
    rotate_left
    ·simp only [n_]
     rfl
    refine ZD (i := 2) (N := some 70) (v := ?_) (a' := ?_) #[true, false, true, false, false, false, false, false, false, false, false, false, false, false] rfl rfl (Zw HT_.out (by kernel_rfl)) (fun _ _ _ h => h) (Or.inl ⟨by rfl, ?_⟩) ?_ ?_
    rotate_left
    ·intro w'
     go_simp
     with_reducible rfl
    rotate_left
    ·simp only [n_]
     rfl
    refine ZD (i := 4) (N := some 72) (v := ?_) (a' := ?_) #[true, false, true, false, true, false, false, false, false, false, false, false, false, false] rfl rfl (Zw HT_.out (by kernel_rfl)) (fun _ _ _ h => h) (Or.inl ⟨by rfl, ?_⟩) ?_ ?_
    rotate_left
    ·intro w'
     go_simp
     with_reducible rfl
    rotate_left
    ·simp only [n_]
     rfl
    refine js (i := 1) (N := some 69) (v := ?_) (a' := ?_) #[true, true, true, false, true, false, false, false, false, false, false, false, false, false] rfl rfl (ZT HT_.out HW_.out (by kernel_rfl)) (fun _ _ _ h => h) (Or.inl ⟨by rfl, ?_⟩) hHeld ?_ ?_
    rotate_left
    ·rintro w' ⟨s0, s1⟩
     go_simp
     with_reducible rfl
    rotate_left
    ·simp only [n_]
     rfl
    refine js (i := 3) (N := some 71) (v := ?_) (a' := ?_) #[true, true, true, true, true, false, false, false, false, false, false, false, false, false] rfl rfl (ZT HT_.out HW_.out (by kernel_rfl)) (fun _ _ _ h => h) (Or.inl ⟨by rfl, ?_⟩) hHeld ?_ ?_
    rotate_left
    ·rintro w' ⟨s0, s1⟩
     go_simp
     with_reducible rfl
    rotate_left
    ·simp only [n_]
     rfl
    refine jV (i := 5) (N := some 73) #[true, true, true, true, true, true, false, false, false, false, false, false, false, false] rfl rfl (ja HT_.out (by kernel_rfl)) (by decide) (fun K hK => ?_)
    refine Jt Tryd.func35 (by kernel_rfl) rfl #[.slice A0_0 l0_0.length c0_0, .slice Ao42 x4_1.length co42] (by rfl) rfl rfl (by (try simp only [List.map_toArray, List.map_cons, List.map_nil]); rfl) ?_
    with_reducible refine (Zf.calls k1 _ _ l0_0 (fun k_ => some k_ = (.slice Ao42 x4_1.length co42 : Value).ownBlock) _ _ x4_1 zP _ ?side1 ?side2 ?side3 A40.out).mono ?_
    (case side1 => repeat (exact (Kd.jm HR0_0.out HB.out)))
    (case side2 => exact HC0_0.out)
    (case side3 => exact Kd.R_V (Kd.JU rfl (Kd.Zd (Kd.Zd (HO_4.out) z0.out (by decide)) z1.out (by decide))))
    rintro e w44 ⟨v476, rfl, ho0, hb⟩
    refine ⟨_, rfl, ?_⟩
    have n0_ := Z0.mk (Kd.Zk (HO_4.out) hb)
    have n1_ := Z0.mk (Kd.zhs (Kd.zc2 (ok' := fun k_ => k_ ≠ z6 ∧ k_ ≠ z5) ho0 (fun k_ hk_ => ⟨Or.elim hk_ (fun hs_ => ((Kd.Zd (Kd.Zd (HO_4.out) z0.out (by decide)) z1.out (by decide)).1 k_ hs_.symm).1.2) (fun hn_ => (Kd.jq (g := z6) (o := .cells #[.slice A0_0 l0_0.length c0_0, .slice A0_1 l0_1.length c0_1] 30 (0, 0)) (z0.out) k_ hn_)), Or.elim hk_ (fun hs_ => ((Kd.Zd (Kd.Zd (HO_4.out) z0.out (by decide)) z1.out (by decide)).1 k_ hs_.symm).2) (fun hn_ => (Kd.jq (g := z5) (o := .cells #[.slice none 0 0, .slice none 0 0] 30 (0, 0)) (z1.out) k_ hn_))⟩)) (Z4 HB.out))
    have n2_ := Z0.mk (Z5 (g := z6) (o := .cells #[.slice A0_0 l0_0.length c0_0, .slice A0_1 l0_1.length c0_1] 30 (0, 0)) (z0.out) hb)
    have n3_ := Z0.mk (Z5 (g := z5) (o := .cells #[.slice none 0 0, .slice none 0 0] 30 (0, 0)) (z1.out) hb)
    have n4_ := Z0.mk (Zc HB.out hb)
    clear HO_4
    clear z0
    clear z1
    clear HB
    have HO_4 := n0_
    have zo := n1_
    have z0 := n2_
    have z1 := n3_
    have HB := n4_
    clear n0_ n1_ n2_ n3_ n4_
    (try clear hb)
    (try clear hb2)
    (try clear hk)
    (try clear hi)
    (try clear ho0)
    obtain ⟨Ao45, co45, eo45⟩ := Kd.zbb zo.out
    (subst eo45)
    refine hK.out _ _ ⟨(Z1 z0.out 0).trans rfl, (Z1 z0.out 1).trans rfl⟩ (fun hHeld => ?_)
    clear hK K
    refine jo (a' := ?_) ?_ ?_
    rotate_left
    ·show Act.put _ (some 73) _ = _
     simp only [n_]
     rfl
    refine jV (i := 6) (N := some 74) #[true, true, true, true, true, true, true, false, false, false, false, false, false, false] rfl rfl (ja HT_.out (by kernel_rfl)) (by decide) (fun K hK => ?_)
    refine Jt Tryd.func34 (by kernel_rfl) rfl #[.slice A0_0 l0_0.length c0_0, .slice Ao45 zP.length co45] (by rfl) rfl rfl (by (try simp only [List.map_toArray, List.map_cons, List.map_nil]); rfl) ?_
    with_reducible refine (Zr.calls k1 _ _ l0_0 _ _ zP zq za zb _ ?side1 ?side2 ?side3 ?side4 A41.out).mono ?_
    (case side1 => repeat (exact (Kd.jm HR0_0.out HB.out)))
    (case side2 => exact HC0_0.out)
    (case side3 => repeat (exact (Kd.Jg zo.out).2.2))
    (case side4 => exact (Kd.Jg zo.out).2.1)
    rintro e w46 ⟨yg, yh, v485, rfl, ho0, ho1, ho2, hb⟩
    refine ⟨_, rfl, ?_⟩
    have n0_ := Z0.mk (Kd.Z9 (Kd.JV (Kd.JV (Kd.zda (HO_4.out) hb) (Kd.Zn ho0)) (Kd.Zn ho1)) (fun _ h_ => h_.1))
    have n1_ := Z0.mk (Kd.zc2 (Kd.zcz (Kd.zcz (Kd.zcz (Kd.V_old (zo.out) hb) (Kd.Zn ho0)) (Kd.Zn ho1)) (Kd.ji ho2)) (fun _ h_ => h_.1))
    have n2_ := Z0.mk (Kd.ZS (Kd.ZU ho0 (Kd.ZA (HO_4.out))) (Z4 HB.out))
    have n3_ := Z0.mk (Kd.ZS (Kd.ZU ho1 (Kd.ZA (HO_4.out))) (Z4 HB.out))
    have n4_ := Z0.mk (Kd.zbc (Kd.zaa ho2 (Kd.ZA (HO_4.out))) (Z4 HB.out))
    have n5_ := Z0.mk (Z5 (g := z6) (o := .cells #[.slice A0_0 l0_0.length c0_0, .slice A0_1 l0_1.length c0_1] 30 (0, 0)) (z0.out) hb)
    have n6_ := Z0.mk (Z5 (g := z5) (o := .cells #[.slice none 0 0, .slice none 0 0] 30 (0, 0)) (z1.out) hb)
    have n7_ := Z0.mk (Zc HB.out hb)
    clear HO_4
    clear zo
    clear z0
    clear z1
    clear HB
    have HO_4 := n0_
    have zo := n1_
    have zY := n2_
    have zZ := n3_
    have zN := n4_
    have z0 := n5_
    have z1 := n6_
    have HB := n7_
    clear n0_ n1_ n2_ n3_ n4_ n5_ n6_ n7_
    (try clear hb)
    (try clear hb2)
    (try clear hk)
    (try clear hi)
    (try clear ho0)
    (try clear ho1)
    (try clear ho2)
    refine hK.out _ _ ⟨(Z1 z0.out 0).trans rfl, (Z1 z0.out 1).trans rfl⟩ (fun hHeld => ?_)
    clear hK K
    refine jo (a' := ?_) ?_ ?_
    rotate_left
    ·show Act.put _ (some 74) _ = _
     simp only [n_]
     rfl
    refine ZD (i := 7) (N := some 67) (v := ?_) (a' := ?_) #[true, true, true, true, true, true, true, true, false, false, false, false, false, false] rfl rfl (Zw HT_.out (by kernel_rfl)) (fun _ _ _ h => h) (Or.inl ⟨by rfl, ?_⟩) ?_ ?_
    rotate_left
    ·intro w'
     go_simp
     with_reducible rfl
    rotate_left
    ·simp only [n_]
     rfl
    refine ZD (i := 8) (N := some 75) (v := ?_) (a' := ?_) #[true, true, true, true, true, true, true, true, true, false, false, false, false, false] rfl rfl (Zw HT_.out (by kernel_rfl)) (fun _ _ _ h => h) (Or.inl ⟨by rfl, ?_⟩) ?_ ?_
    rotate_left
    ·intro w'
     go_simp
     with_reducible rfl
    rotate_left
    ·simp only [n_]
     rfl
    refine ZD (i := 9) (N := some 76) (v := ?_) (a' := ?_) #[true, true, true, true, true, true, true, true, true, true, false, false, false, false] rfl rfl (Zw HT_.out (by kernel_rfl)) (fun _ _ _ h => h) (Or.inl ⟨by rfl, ?_⟩) ?_ ?_
    rotate_left
    ·intro w'
     go_simp
     with_reducible rfl
    rotate_left
    ·simp only [n_]
     rfl
    refine ZD (i := 10) (N := some 77) (v := ?_) (a' := ?_) #[true, true, true, true, true, true, true, true, true, true, true, false, false, false] rfl rfl (Zw HT_.out (by kernel_rfl)) (fun _ _ _ h => h) (Or.inl ⟨by rfl, ?_⟩) ?_ ?_
    rotate_left
    ·intro w'
     go_simp
     with_reducible rfl
    rotate_left
    ·simp only [n_]
     rfl
    refine ZD (i := 11) (N := some 8) (v := ?_) (a' := ?_) #[true, true, true, true, true, true, true, true, true, true, true, true, false, false] rfl rfl (Zw HT_.out (by kernel_rfl)) (fun _ _ _ h => h) (Or.inl ⟨by rfl, ?_⟩) ?_ ?_
    rotate_left
    ·intro w'
     go_simp
     with_reducible rfl
    rotate_left
    ·simp only [n_]
     rfl
    refine ZD (i := 12) (N := some 9) (v := ?_) (a' := ?_) #[true, true, true, true, true, true, true, true, true, true, true, true, true, false] rfl rfl (Zw HT_.out (by kernel_rfl)) (fun _ _ _ h => h) (Or.inl ⟨by rfl, ?_⟩) ?_ ?_
    rotate_left
    ·intro w'
     go_simp
     with_reducible rfl
    rotate_left
    ·simp only [n_]
     rfl
    refine ZD (i := 13) (N := some 10) (v := ?_) (a' := ?_) #[true, true, true, true, true, true, true, true, true, true, true, true, true, true] rfl rfl (Zw HT_.out (by kernel_rfl)) (fun _ _ _ h => h) (Or.inl ⟨by rfl, ?_⟩) ?_ ?_
    rotate_left
    ·intro w'
     go_simp
     with_reducible rfl
    rotate_left
    ·simp only [n_]
     rfl
    refine JE (Ji HT_.out (by kernel_rfl)) ?_
    obtain ⟨Ao47, co47, eo47⟩ := Kd.Jz zN.out
    subst eo47
    try go_wp2_with (((with_reducible refine ZK (N := 11) rfl ?_); refine jc ?hg (N := 11) ?hd (cs := #[.slice none 0 0, .slice none 0 0]) (t := 30) ?hr ?_; (case hd => rfl); (case hg => rfl); (case hr => (go_simp; done)); intro z7 hg w48 hbox hb; have n0_ := Z0.mk (Kd.Zk (HO_4.out) hb); have n1_ := Z0.mk (Kd.zhm (Kd.zh1 (zo.out) z7 (Nat.le_of_eq hg.symm)) hb); have n2_ := Z0.mk (Kd.Zk (zY.out) hb); have n3_ := Z0.mk (Kd.Zk (zZ.out) hb); have n4_ := Z0.mk (Kd.JG (zN.out) hb); have n5_ := Z0.mk (Z5 (g := z6) (o := .cells #[.slice A0_0 l0_0.length c0_0, .slice A0_1 l0_1.length c0_1] 30 (0, 0)) (z0.out) hb); have n6_ := Z0.mk (Z5 (g := z5) (o := .cells #[.slice none 0 0, .slice none 0 0] 30 (0, 0)) (z1.out) hb); have n7_ := Z0.mk (Zc HB.out hb); have n8_ := Z0.mk (hbox); have n9_ := Z0.mk ((by rw [hg]; exact (Z4 HB.out) : w.heap.size ≤ z7)); have n10_ := Z0.mk ((by rw [hg]; exact (Z4 HB.out) : w.heap.size ≤ z7)); have n11_ := Z0.mk ((by rw [hg]; exact Nat.ne_of_lt (ZH (g := z6) (o := .cells #[.slice A0_0 l0_0.length c0_0, .slice A0_1 l0_1.length c0_1] 30 (0, 0)) (z0.out)) : z6 ≠ z7)); have n12_ := Z0.mk ((by rw [hg]; exact Nat.ne_of_gt (ZH (g := z6) (o := .cells #[.slice A0_0 l0_0.length c0_0, .slice A0_1 l0_1.length c0_1] 30 (0, 0)) (z0.out)) : z7 ≠ z6)); have n13_ := Z0.mk ((by rw [hg]; exact Nat.ne_of_lt (ZH (g := z5) (o := .cells #[.slice none 0 0, .slice none 0 0] 30 (0, 0)) (z1.out)) : z5 ≠ z7)); have n14_ := Z0.mk ((by rw [hg]; exact Nat.ne_of_gt (ZH (g := z5) (o := .cells #[.slice none 0 0, .slice none 0 0] 30 (0, 0)) (z1.out)) : z7 ≠ z5)); clear HO_4; clear zo; clear zY; clear zZ; clear zN; clear z0; clear z1; clear HB; have HO_4 := n0_; have zo := n1_; have zY := n2_; have zZ := n3_; have zN := n4_; have z0 := n5_; have z1 := n6_; have HB := n7_; have z3 := n8_; have j9 := n9_; have yw := n10_; have zn := n11_; have zX := n12_; have zj := n13_; have zh := n14_; clear n0_ n1_ n2_ n3_ n4_ n5_ n6_ n7_ n8_ n9_ n10_ n11_ n12_ n13_ n14_; clear hb hbox hg; have hnb49 := zX.out; have hnc49 := zn.out; have hnb50 := zh.out; have hnc50 := zj.out; have hcz51_0 : w48.cell? ⟨z7, 0, none⟩ = some (.slice none 0 0) := (Z1 z3.out 0).trans rfl; have hcz51_1 : w48.cell? ⟨z7, 1, none⟩ = some (.slice none 0 0) := (Z1 z3.out 1).trans rfl; have hfz51_0 := Z2 z3.out 0; have hfz51_1 := Z2 z3.out 1))
    go_loopg [12] k1 (fun kq v12 w' => ∃ (x12_2 : Int) (z8 : List (List (S53))) (zd : Value), v12 = .int .i64 x12_2 ∧ Z0 (Z6.l2 kq zq za x12_2 l0_0 l0_1 zb z8 = some (r1, r2, r3)) ∧ Z0 (kq ≤ k1) ∧ Z0 (Kd.R (Kd.int .i64) 3 w' w.heap.size (fun k_ => some k_ ≠ (yh : Value).ownBlock) yg zq) ∧ Z0 (Kd.R (Kd.int .i64) 3 w' w.heap.size (fun k_ => some k_ ≠ (yg : Value).ownBlock) yh za) ∧ Z0 (Kd.S (Kd.slice 3 (Kd.int .i64)) 22 w' w.heap.size (fun k_ => some k_ ≠ (yg : Value).ownBlock ∧ some k_ ≠ (yh : Value).ownBlock) (.slice Ao47 zb.length co47) zb) ∧ Z0 (Kd.S (Kd.slice 53 k53) 42 w' w.heap.size (fun _ => True) zd z8) ∧ Z0 (w'.heap[z6]? = some (.cells #[(.slice A0_0 l0_0.length c0_0), (.slice A0_1 l0_1.length c0_1)] 30 (0, 0))) ∧ Z0 (w'.heap[z5]? = some (.cells #[(.slice none 0 0), (.slice none 0 0)] 30 (0, 0))) ∧ Z0 (w'.heap[z7]? = some (.cells #[(.slice Ao47 zb.length co47), zd] 30 (0, 0))) ∧ Z0 (Below w.heap.size w w'))
    case atStart => exact ⟨(0), (([] : List (List (S53)))), (.slice none 0 0), (by rfl), H', ⟨Nat.le_refl _⟩, ⟨Kd.Z9 (Kd.Zb (p := ⟨z7, 1, none⟩) (Kd.Zb (p := ⟨z7, 0, none⟩) (Kd.Zd zY.out z3.out (by decide)) (fun _ hk => hk.2) (.slice Ao47 zb.length co47)) (fun _ hk => hk.2) (.slice none 0 0)) (fun _ hk => hk.1.1)⟩, ⟨Kd.Z9 (Kd.Zb (p := ⟨z7, 1, none⟩) (Kd.Zb (p := ⟨z7, 0, none⟩) (Kd.Zd zZ.out z3.out (by decide)) (fun _ hk => hk.2) (.slice Ao47 zb.length co47)) (fun _ hk => hk.2) (.slice none 0 0)) (fun _ hk => hk.1.1)⟩, ⟨Kd.jt (Kd.Jn (p := ⟨z7, 1, none⟩) (Kd.Jn (p := ⟨z7, 0, none⟩) (Kd.jY zN.out z3.out (by decide)) (fun _ hk => hk.2) (.slice Ao47 zb.length co47)) (fun _ hk => hk.2) (.slice none 0 0)) (fun _ hk => ⟨hk.1.1.1, hk.1.1.2⟩)⟩, ⟨Kd.ze2 _ _ _ _ _⟩, ⟨by refine Zo ?_ zn.out _; refine Zo ?_ zn.out _; exact z0.out⟩, ⟨by refine Zo ?_ zj.out _; refine Zo ?_ zj.out _; exact z1.out⟩, ⟨by refine ZJ (cs := #[.slice Ao47 zb.length co47, .slice none 0 0]) ?_ 1 _ rfl; refine ZJ (cs := #[.slice none 0 0, .slice none 0 0]) ?_ 0 _ rfl; exact z3.out⟩, ⟨by repeat ((with_reducible first | exact HB.out | refine ZB ?_ yw.out))⟩⟩
    case round =>
     clear H'
     clear c10b0 hcz51_0 hcz51_1 hfz51_0 hfz51_1
     obtain ⟨x12_2, z8, zd, rfl, HA, HK2, HO_8, HO_9, z4, z2, z0, z1, z3, HB⟩ := hrel
     cases gk with
     | zero => exact absurd HA.out (by simp [Z6.l2])
     | succ k2 =>
      have H := HA.out
      clear HA
      simp only [Z6.l2] at H
      by_cases c52 : x12_2 < (za.length : Int)
      rotate_left
      ·rw [if_neg c52] at H
       have c52b0 : decide (x12_2 < (za.length : Int)) = false := decide_eq_false c52
       clear c52
       replace H := Option.bind_eq_some_iff.mp H
       obtain ⟨zS, yD, H⟩ := H
       replace H : ((ZR.f k2 zq zS).bind fun zT => (some (zb, z8, zT))) = some (r1, r2, r3) := H
       have A67 := Z0.mk yD
       clear yD
       replace H := Option.bind_eq_some_iff.mp H
       obtain ⟨zT, yE, H⟩ := H
       replace H : (some (zb, z8, zT)) = some (r1, r2, r3) := H
       have A68 := Z0.mk yE
       clear yE
       simp only [Option.some.injEq, Prod.mk.injEq] at H
       obtain ⟨rfl, rfl, rfl⟩ := H
       obtain ⟨Ao69, co69, eo69⟩ := Kd.ZC HO_9.out
       subst eo69
       try go_wp2
       have n0_ := Z0.mk (Kd.jv HO_8.out)
       have n1_ := Z0.mk (Kd.jv HO_9.out)
       have n2_ := Z0.mk (Kd.JZ z4.out)
       have n3_ := Z0.mk (Kd.JZ z2.out)
       have n4_ := Z0.mk (ZV z0.out)
       have n5_ := Z0.mk (ZV z1.out)
       have n6_ := Z0.mk (ZV z3.out)
       have n7_ := Z0.mk (jM HB.out)
       clear HO_8
       clear HO_9
       clear z4
       clear z2
       clear z0
       clear z1
       clear z3
       clear HB
       have HO_8 := n0_
       have HO_9 := n1_
       have z4 := n2_
       have z2 := n3_
       have z0 := n4_
       have z1 := n5_
       have z3 := n6_
       have HB := n7_
       clear n0_ n1_ n2_ n3_ n4_ n5_ n6_ n7_
       refine Jq (n := 8) (S := fun w' => w'.cell? ⟨z7, 0, none⟩ = some (.slice Ao47 zb.length co47) ∧ w'.cell? ⟨z7, 1, none⟩ = some (zd) ∧ w'.cell? ⟨z6, 0, none⟩ = some (.slice A0_0 l0_0.length c0_0) ∧ w'.cell? ⟨z6, 1, none⟩ = some (.slice A0_1 l0_1.length c0_1)) (ds := []) #[false, false, false, false, false, false, false, false] (by kernel_rfl) rfl rfl ⟨(Z1 z3.out 0).trans rfl, (Z1 z3.out 1).trans rfl, (Z1 z0.out 0).trans rfl, (Z1 z0.out 1).trans rfl⟩ (fun hHeld => ?_); refine J1 Z6.tab21 Z6.zgi (fun HT_ HW_ => ?_)
       generalize wr.drew = w70 at HO_8 HO_9 z4 z2 z0 z1 z3 HB hHeld ⊢
       refine ZD (i := 1) (N := some 102) (v := ?_) (a' := ?_) #[false, true, false, false, false, false, false, false] rfl rfl (Zw HT_.out (by kernel_rfl)) (fun _ _ _ h => h) (Or.inl ⟨by rfl, ?_⟩) ?_ ?_
       rotate_left
       ·intro w'
        go_simp
        with_reducible rfl
       rotate_left
       ·simp only [n_]
        rfl
       refine ZD (i := 2) (N := some 103) (v := ?_) (a' := ?_) #[false, true, true, false, false, false, false, false] rfl rfl (Zw HT_.out (by kernel_rfl)) (fun _ _ _ h => h) (Or.inl ⟨by rfl, ?_⟩) ?_ ?_
       rotate_left
       ·intro w'
        go_simp
        with_reducible rfl
       rotate_left
       ·simp only [n_]
        rfl
       refine js (i := 0) (N := some 101) (v := ?_) (a' := ?_) #[true, true, true, false, false, false, false, false] rfl rfl (ZT HT_.out HW_.out (by kernel_rfl)) (fun _ _ _ h => h) (Or.inl ⟨by rfl, ?_⟩) hHeld ?_ ?_
       rotate_left
       ·rintro w' ⟨s0, s1, s2, s3⟩
        go_simp
        with_reducible rfl
       rotate_left
       ·simp only [n_]
        rfl
       refine js (i := 3) (N := some 104) (v := ?_) (a' := ?_) #[true, true, true, true, false, false, false, false] rfl rfl (ZT HT_.out HW_.out (by kernel_rfl)) (fun _ _ _ h => h) (Or.inl ⟨by rfl, ?_⟩) hHeld ?_ ?_
       rotate_left
       ·rintro w' ⟨s0, s1, s2, s3⟩
        go_simp
        with_reducible rfl
       rotate_left
       ·simp only [n_]
        rfl
       refine jV (i := 4) (N := some 105) #[true, true, true, true, true, false, false, false] rfl rfl (ja HT_.out (by kernel_rfl)) (by decide) (fun K hK => ?_)
       refine Jt Tryd.func37 (by kernel_rfl) rfl #[.slice A0_0 l0_0.length c0_0] (by rfl) rfl rfl (by (try simp only [List.map_toArray, List.map_cons, List.map_nil]); rfl) ?_
       with_reducible refine (Zi.calls k2 _ _ l0_0 zS _ ?side1 ?side2 A67.out).mono ?_
       (case side1 => repeat (exact (Kd.jm HR0_0.out HB.out)))
       (case side2 => exact HC0_0.out)
       rintro e w71 ⟨v500, rfl, ho0, hb⟩
       refine ⟨_, rfl, ?_⟩
       have n0_ := Z0.mk (Kd.Zk (HO_8.out) hb)
       have n1_ := Z0.mk (Kd.Zk (HO_9.out) hb)
       have n2_ := Z0.mk (Kd.JG (z4.out) hb)
       have n3_ := Z0.mk (Kd.JG (z2.out) hb)
       have n4_ := Z0.mk (Kd.ZS ho0 (Z4 HB.out))
       have n5_ := Z0.mk (Z5 (g := z6) (o := .cells #[.slice A0_0 l0_0.length c0_0, .slice A0_1 l0_1.length c0_1] 30 (0, 0)) (z0.out) hb)
       have n6_ := Z0.mk (Z5 (g := z5) (o := .cells #[.slice none 0 0, .slice none 0 0] 30 (0, 0)) (z1.out) hb)
       have n7_ := Z0.mk (Z5 (g := z7) (o := .cells #[.slice Ao47 zb.length co47, zd] 30 (0, 0)) (z3.out) hb)
       have n8_ := Z0.mk (Zc HB.out hb)
       clear HO_8
       clear HO_9
       clear z4
       clear z2
       clear z0
       clear z1
       clear z3
       clear HB
       have HO_8 := n0_
       have HO_9 := n1_
       have z4 := n2_
       have z2 := n3_
       have zF := n4_
       have z0 := n5_
       have z1 := n6_
       have z3 := n7_
       have HB := n8_
       clear n0_ n1_ n2_ n3_ n4_ n5_ n6_ n7_ n8_
       (try clear hb)
       (try clear hb2)
       (try clear hk)
       (try clear hi)
       (try clear ho0)
       obtain ⟨Ao72, co72, eo72⟩ := Kd.ZC HO_8.out
       (subst eo72)
       obtain ⟨Ao73, co73, eo73⟩ := Kd.ZC zF.out
       (subst eo73)
       refine hK.out _ _ ⟨(Z1 z3.out 0).trans rfl, (Z1 z3.out 1).trans rfl, (Z1 z0.out 0).trans rfl, (Z1 z0.out 1).trans rfl⟩ (fun hHeld => ?_)
       clear hK K
       refine jo (a' := ?_) ?_ ?_
       rotate_left
       ·show Act.put _ (some 105) _ = _
        simp only [n_]
        rfl
       refine jV (i := 5) (N := some 106) #[true, true, true, true, true, true, false, false] rfl rfl (ja HT_.out (by kernel_rfl)) (by decide) (fun K hK => ?_)
       refine Jt Tryd.func36 (by kernel_rfl) rfl #[.slice Ao72 zq.length co72, .slice Ao73 zS.length co73] (by rfl) rfl rfl (by (try simp only [List.map_toArray, List.map_cons, List.map_nil]); rfl) ?_
       with_reducible refine (ZR.calls k2 _ _ zq _ _ zS zT _ ?side1 ?side2 ?side3 ?side4 A68.out).mono ?_
       (case side1 => repeat (exact (Kd.Zg HO_8.out).2.2))
       (case side2 => exact (Kd.Zg HO_8.out).2.1)
       (case side3 => repeat (exact (Kd.Zg zF.out).2.2))
       (case side4 => exact (Kd.Zg zF.out).2.1)
       rintro e w74 ⟨v503, rfl, ho0, hb⟩
       refine ⟨_, rfl, ?_⟩
       have n0_ := Z0.mk (Kd.ZO (HO_8.out) (Kd.Zn ho0) hb)
       have n1_ := Z0.mk (Kd.ZO (HO_9.out) (Kd.Zn ho0) hb)
       have n2_ := Z0.mk (Kd.JW (z4.out) (Kd.Zn ho0) hb)
       have n3_ := Z0.mk (Kd.JG (z2.out) hb)
       have n4_ := Z0.mk (Kd.Zk (zF.out) hb)
       have n5_ := Z0.mk (Kd.ZS (Kd.ZU (Kd.ZU ho0 (Kd.ZA (HO_8.out))) (Kd.ZA (HO_9.out))) (Z4 HB.out))
       have n6_ := Z0.mk (Z5 (g := z6) (o := .cells #[.slice A0_0 l0_0.length c0_0, .slice A0_1 l0_1.length c0_1] 30 (0, 0)) (z0.out) hb)
       have n7_ := Z0.mk (Z5 (g := z5) (o := .cells #[.slice none 0 0, .slice none 0 0] 30 (0, 0)) (z1.out) hb)
       have n8_ := Z0.mk (Z5 (g := z7) (o := .cells #[.slice Ao47 zb.length co47, zd] 30 (0, 0)) (z3.out) hb)
       have n9_ := Z0.mk (Zc HB.out hb)
       clear HO_8
       clear HO_9
       clear z4
       clear z2
       clear zF
       clear z0
       clear z1
       clear z3
       clear HB
       have HO_8 := n0_
       have HO_9 := n1_
       have z4 := n2_
       have z2 := n3_
       have zF := n4_
       have yL := n5_
       have z0 := n6_
       have z1 := n7_
       have z3 := n8_
       have HB := n9_
       clear n0_ n1_ n2_ n3_ n4_ n5_ n6_ n7_ n8_ n9_
       (try clear hb)
       (try clear hb2)
       (try clear hk)
       (try clear hi)
       (try clear ho0)
       obtain ⟨Ao76, co76, eo76⟩ := Kd.Jz z2.out
       (subst eo76)
       refine hK.out _ _ ⟨(Z1 z3.out 0).trans rfl, (Z1 z3.out 1).trans rfl, (Z1 z0.out 0).trans rfl, (Z1 z0.out 1).trans rfl⟩ (fun hHeld => ?_)
       clear hK K
       refine jo (a' := ?_) ?_ ?_
       rotate_left
       ·show Act.put _ (some 106) _ = _
        simp only [n_]
        rfl
       refine jV (i := 6) (N := none) #[true, true, true, true, true, true, true, false] rfl rfl (ja HT_.out (by kernel_rfl)) (by decide) (fun K hK => ?_)
       have hs75 : w74.cell? ⟨z5, 0, none⟩ = some (.slice none 0 0) := (Z1 z1.out 0).trans rfl
       have hfs75 := Z2 z1.out 0
       have hns75_0 := zi.out
       have hns75_2 := zh.out
       have hms75_0 := zA.out
       have hms75_2 := zj.out
       have hs77 : w74.cell? ⟨z5, 1, none⟩ = some (.slice none 0 0) := (Z1 z1.out 1).trans rfl
       have hfs77 := Z2 z1.out 1
       have hns77_0 := zi.out
       have hns77_2 := zh.out
       have hms77_0 := zA.out
       have hms77_2 := zj.out
       refine za9 (w1 := ?_) (by rfl) rfl ?_ ?_
       rotate_left
       ·go_simp
        rfl
       refine hK.out _ _ ⟨((cell_far (p := ⟨z5, _, none⟩) zh.out _).trans (((cell_far (p := ⟨z5, _, none⟩) zh.out _).trans (hHeld.1)))), ((cell_far (p := ⟨z5, _, none⟩) zh.out _).trans (((cell_far (p := ⟨z5, _, none⟩) zh.out _).trans (hHeld.2.1)))), ((cell_far (p := ⟨z5, _, none⟩) zi.out _).trans (((cell_far (p := ⟨z5, _, none⟩) zi.out _).trans (hHeld.2.2.1)))), ((cell_far (p := ⟨z5, _, none⟩) zi.out _).trans (((cell_far (p := ⟨z5, _, none⟩) zi.out _).trans (hHeld.2.2.2))))⟩ (fun hHeld => ?_)
       clear hK K
       refine ZD (i := 7) (N := some 3) (v := ?_) (a' := ?_) #[true, true, true, true, true, true, true, true] rfl rfl (Zw HT_.out (by kernel_rfl)) (fun _ _ _ h => h) (Or.inl ⟨by rfl, ?_⟩) ?_ ?_
       rotate_left
       ·intro w'
        go_simp
        with_reducible rfl
       rotate_left
       ·simp only [n_]
        rfl
       refine JE (Ji HT_.out (by kernel_rfl)) ?_
       try go_wp2
       refine bodyPost_ret (zbp rfl _ _ z5 30 #[.slice Ao47 zb.length co47, .slice Ao76 z8.length co76] (0, 0) _ rfl (by refine ZJ (cs := #[.slice Ao47 zb.length co47, .slice none 0 0]) ?_ 1 _ rfl; refine ZJ (cs := #[.slice none 0 0, .slice none 0 0]) ?_ 0 _ rfl; exact z1.out) Tryd.underlying30 rfl (by kernel_rfl)) rfl ?_
       exact ⟨_, _, _, by rfl, Kd.jt (Kd.Jn (p := ⟨z5, 1, none⟩) (Kd.Jn (p := ⟨z5, 0, none⟩) (Kd.jY z4.out z1.out (by decide)) (fun _ hk => hk.2) (.slice Ao47 zb.length co47)) (fun _ hk => hk.2) (.slice Ao76 z8.length co76)) (fun _ hk => hk.1.2), Kd.jt (Kd.Jn (p := ⟨z5, 1, none⟩) (Kd.Jn (p := ⟨z5, 0, none⟩) (Kd.jY z2.out z1.out (by decide)) (fun _ hk => hk.2) (.slice Ao47 zb.length co47)) (fun _ hk => hk.2) (.slice Ao76 z8.length co76)) (fun _ hk => trivial), Kd.Z9 (Kd.Zb (p := ⟨z5, 1, none⟩) (Kd.Zb (p := ⟨z5, 0, none⟩) (Kd.Zd yL.out z1.out (by decide)) (fun _ hk => hk.2) (.slice Ao47 zb.length co47)) (fun _ hk => hk.2) (.slice Ao76 z8.length co76)) (fun _ hk => trivial), by repeat ((with_reducible first | exact HB.out | refine ZB ?_ yJ.out))⟩
      rw [if_pos c52] at H
      have c52b0 : decide (x12_2 < (za.length : Int)) = true := decide_eq_true c52
      clear c52
      obtain ⟨zz, y8⟩ : ∃ y_ : List (S53), y_ = (([] : List (S53))) := ⟨_, rfl⟩
      replace H : (if 0 ≤ x12_2 then (if 0 ≤ (rd za x12_2) then (if (rd za x12_2) < (l0_1.length : Int) then (if zz.length + (ZF l0_1 (rd za x12_2)).length < 5864062014805 then (if z8.length < 5864062014805 then (Z6.l2 k2 zq za (wrap64 (x12_2 + 1)) l0_0 l0_1 zb (z8 ++ [(zz ++ (ZF l0_1 (rd za x12_2)))])) else (none)) else (none)) else (none)) else (none)) else (none)) = some (r1, r2, r3) := by (have H2_ := (Option.bind_some _ _).symm.trans H; rw [y8]; with_reducible exact H2_)
      have yM := Z0.mk y8
      clear y8
      by_cases c53 : 0 ≤ x12_2
      rotate_left
      ·rw [if_neg c53] at H
       exact absurd H (by simp)
      rw [if_pos c53] at H
      have c53b0 : decide (0 ≤ x12_2) = true := decide_eq_true c53
      clear c53
      by_cases c54 : 0 ≤ (rd za x12_2)
      rotate_left
      ·rw [if_neg c54] at H
       exact absurd H (by simp)
      rw [if_pos c54] at H
      have c54b0 : decide (0 ≤ (rd za x12_2)) = true := decide_eq_true c54
      clear c54
      by_cases c55 : (rd za x12_2) < (l0_1.length : Int)
      rotate_left
      ·rw [if_neg c55] at H
       exact absurd H (by simp)
      rw [if_pos c55] at H
      have c55b0 : decide ((rd za x12_2) < (l0_1.length : Int)) = true := decide_eq_true c55
      clear c55
      by_cases c56 : zz.length + (ZF l0_1 (rd za x12_2)).length < 5864062014805
      rotate_left
      ·rw [if_neg c56] at H
       exact absurd H (by simp)
      rw [if_pos c56] at H
      have LMc56 := Z0.mk c56
      clear c56
      obtain ⟨y1, y9⟩ : ∃ y_ : List (S53), y_ = (zz ++ (ZF l0_1 (rd za x12_2))) := ⟨_, rfl⟩
      replace H : (if z8.length < 5864062014805 then (Z6.l2 k2 zq za (wrap64 (x12_2 + 1)) l0_0 l0_1 zb (z8 ++ [y1])) else (none)) = some (r1, r2, r3) := by (rw [y9]; with_reducible exact H)
      have yN := Z0.mk y9
      clear y9
      by_cases c57 : z8.length < 5864062014805
      rotate_left
      ·rw [if_neg c57] at H
       exact absurd H (by simp)
      rw [if_pos c57] at H
      have LMc57 := Z0.mk c57
      clear c57
      obtain ⟨zG, ya⟩ : ∃ y_ : List (List (S53)), y_ = (z8 ++ [y1]) := ⟨_, rfl⟩
      replace H : (Z6.l2 k2 zq za (wrap64 (x12_2 + 1)) l0_0 l0_1 zb zG) = some (r1, r2, r3) := by (rw [ya]; with_reducible exact H)
      have yO := Z0.mk ya
      clear ya
      have H' := Z0.mk H
      clear H
      obtain ⟨Ao58, co58, eo58⟩ := Kd.ZC HO_9.out
      subst eo58
      try go_wp2
      have n0_ := Z0.mk (Kd.jv HO_8.out)
      have n1_ := Z0.mk (Kd.jv HO_9.out)
      have n2_ := Z0.mk (Kd.JZ z4.out)
      have n3_ := Z0.mk (Kd.JZ z2.out)
      have n4_ := Z0.mk (ZV z0.out)
      have n5_ := Z0.mk (ZV z1.out)
      have n6_ := Z0.mk (ZV z3.out)
      have n7_ := Z0.mk (jM HB.out)
      clear HO_8
      clear HO_9
      clear z4
      clear z2
      clear z0
      clear z1
      clear z3
      clear HB
      have HO_8 := n0_
      have HO_9 := n1_
      have z4 := n2_
      have z2 := n3_
      have z0 := n4_
      have z1 := n5_
      have z3 := n6_
      have HB := n7_
      clear n0_ n1_ n2_ n3_ n4_ n5_ n6_ n7_
      have yi : 0 ≤ (x12_2 : Int) := of_decide_eq_true (by (with_reducible assumption))
      have yj : x12_2 < (za.length : Int) := of_decide_eq_true (by (with_reducible assumption))
      obtain ⟨yP, yW, y3⟩ := Kd.ZG (Kd.Zg HO_9.out).2.2 x12_2 yi yj
      cases yW
      replace yi := eq_true yi
      replace yj := eq_true yj
      have yk : 0 ≤ ((rd za x12_2) : Int) := of_decide_eq_true (by (with_reducible assumption))
      have yl : (rd za x12_2) < (l0_1.length : Int) := of_decide_eq_true (by (with_reducible assumption))
      obtain ⟨zO, yF, yG, yX, zr, y4, y5⟩ := zai HR0_1.out (rd za x12_2) yk yl
      have ze := zr
      cases yX
      replace zr := (HB.out.cell (World.block_lt_of_cell? w _ zr)).trans zr
      have y6 := Z0.mk y5
      have j5 := Z0.mk y4
      clear y5 y4
      replace yk := eq_true yk
      replace yl := eq_true yl
      refine Jq (n := 16) (S := fun w' => w'.cell? ⟨z7, 0, none⟩ = some (.slice Ao47 zb.length co47) ∧ w'.cell? ⟨z7, 1, none⟩ = some (zd) ∧ w'.cell? ⟨z6, 0, none⟩ = some (.slice A0_0 l0_0.length c0_0) ∧ w'.cell? ⟨z6, 1, none⟩ = some (.slice (some zO) l0_1.length c0_1) ∧ w'.cell? (yP.add (x12_2).toNat) = some (.int .i64 (rd za x12_2)) ∧ w'.cell? (zO.add ((rd za x12_2)).toNat) = some (.slice yF (ZF l0_1 (rd za x12_2)).length yG)) (ds := [15]) #[false, false, false, false, false, false, false, false, false, false, false, false, false, false, false, false] (by kernel_rfl) rfl rfl ⟨(Z1 z3.out 0).trans rfl, (Z1 z3.out 1).trans rfl, (Z1 z0.out 0).trans rfl, (Z1 z0.out 1).trans rfl, y3, ((HB.out.cell (World.block_lt_of_cell? w _ ze)).trans ze)⟩ (fun hHeld => ?_); refine J1 Z6.tab20 Z6.zh2 (fun HT_ HW_ => ?_)
      generalize wr.drew = w59 at HO_8 HO_9 z4 z2 z0 z1 z3 HB y6 y3 zr hHeld ⊢
      refine ZD (i := 0) (N := some 86) (v := ?_) (a' := ?_) #[true, false, false, false, false, false, false, false, false, false, false, false, false, false, false, false] rfl rfl (Zw HT_.out (by kernel_rfl)) (fun _ _ _ h => h) (Or.inl ⟨by rfl, ?_⟩) ?_ ?_
      rotate_left
      ·intro w'
       go_simp
       with_reducible rfl
      rotate_left
      ·simp only [n_]
       rfl
      refine ZD (i := 3) (N := some 89) (v := ?_) (a' := ?_) #[true, false, false, true, false, false, false, false, false, false, false, false, false, false, false, false] rfl rfl (Zw HT_.out (by kernel_rfl)) (fun _ _ _ h => h) (Or.inl ⟨by rfl, ?_⟩) ?_ ?_
      rotate_left
      ·intro w'
       go_simp
       with_reducible rfl
      rotate_left
      ·simp only [n_]
       rfl
      refine ZD (i := 5) (N := some 91) (v := ?_) (a' := ?_) #[true, false, false, true, false, true, false, false, false, false, false, false, false, false, false, false] rfl rfl (Zw HT_.out (by kernel_rfl)) (fun _ _ _ h => h) (Or.inl ⟨by rfl, ?_⟩) ?_ ?_
      rotate_left
      ·intro w'
       go_simp
       with_reducible rfl
      rotate_left
      ·simp only [n_]
       rfl
      refine ZD (i := 6) (N := some 92) (v := ?_) (a' := ?_) #[true, false, false, true, false, true, true, false, false, false, false, false, false, false, false, false] rfl rfl (Zw HT_.out (by kernel_rfl)) (fun _ _ _ h => h) (Or.inl ⟨by rfl, ?_⟩) ?_ ?_
      rotate_left
      ·intro w'
       go_simp
       with_reducible rfl
      rotate_left
      ·simp only [n_]
       rfl
      refine ZD (i := 7) (N := some 93) (v := ?_) (a' := ?_) #[true, false, false, true, false, true, true, true, false, false, false, false, false, false, false, false] rfl rfl (Zw HT_.out (by kernel_rfl)) (fun _ _ _ h => h) (Or.inl ⟨by rfl, ?_⟩) ?_ ?_
      rotate_left
      ·intro w'
       go_simp
       with_reducible rfl
      rotate_left
      ·simp only [n_]
       rfl
      refine js (i := 1) (N := some 87) (v := ?_) (a' := ?_) #[true, true, false, true, false, true, true, true, false, false, false, false, false, false, false, false] rfl rfl (ZT HT_.out HW_.out (by kernel_rfl)) (fun _ _ _ h => h) (Or.inl ⟨by rfl, ?_⟩) hHeld ?_ ?_
      rotate_left
      ·rintro w' ⟨s0, s1, s2, s3, s4, s5⟩
       go_simp
       with_reducible rfl
      rotate_left
      ·simp only [n_]
       rfl
      refine js (i := 4) (N := some 90) (v := ?_) (a' := ?_) #[true, true, false, true, true, true, true, true, false, false, false, false, false, false, false, false] rfl rfl (ZT HT_.out HW_.out (by kernel_rfl)) (fun _ _ _ h => h) (Or.inl ⟨by rfl, ?_⟩) hHeld ?_ ?_
      rotate_left
      ·rintro w' ⟨s0, s1, s2, s3, s4, s5⟩
       go_simp
       with_reducible rfl
      rotate_left
      ·simp only [n_]
       rfl
      refine js (i := 8) (N := some 94) (v := ?_) (a' := ?_) #[true, true, false, true, true, true, true, true, true, false, false, false, false, false, false, false] rfl rfl (ZT HT_.out HW_.out (by kernel_rfl)) (fun _ _ _ h => h) (Or.inl ⟨by rfl, ?_⟩) hHeld ?_ ?_
      rotate_left
      ·rintro w' ⟨s0, s1, s2, s3, s4, s5⟩
       go_simp
       with_reducible rfl
      rotate_left
      ·simp only [n_]
       rfl
      refine ZD (i := 9) (N := some 95) (v := ?_) (a' := ?_) #[true, true, false, true, true, true, true, true, true, true, false, false, false, false, false, false] rfl rfl (Zw HT_.out (by kernel_rfl)) (fun _ _ _ h => h) (Or.inl ⟨by rfl, ?_⟩) ?_ ?_
      rotate_left
      ·intro w'
       go_simp
       with_reducible rfl
      rotate_left
      ·simp only [n_]
       rfl
      refine js (i := 10) (N := some 96) (v := ?_) (a' := ?_) #[true, true, false, true, true, true, true, true, true, true, true, false, false, false, false, false] rfl rfl (ZT HT_.out HW_.out (by kernel_rfl)) (fun _ _ _ h => h) (Or.inl ⟨by rfl, ?_⟩) hHeld ?_ ?_
      rotate_left
      ·rintro w' ⟨s0, s1, s2, s3, s4, s5⟩
       go_simp
       with_reducible rfl
      rotate_left
      ·simp only [n_]
       rfl
      refine jV (i := 2) (N := some 88) #[true, true, true, true, true, true, true, true, true, true, true, false, false, false, false, false] rfl rfl (ja HT_.out (by kernel_rfl)) (by decide) (fun K hK => ?_)
      refine Kd.za3 k53 _ 53 ?hg (N := 88) ?hd (xs := ([] : List (S53))) (inner := []) (ok := fun _ => True) (okp := fun _ => True) ?hr ?hp (fun _ hk => hk) trivial (Below.refl _ _) (Nat.le_refl _) (by simp) ?_; (case hd => rfl); (case hg => rfl); (case hr => (go_simp; done)); (case hp => exact (ZQ.none _ _))
      intro yY w60 ho61 hb hg_ hnew_
      have HS4_ := (hb.cell (World.block_lt_of_cell? _ _ (hHeld.2.2.2.2.1))).trans (hHeld.2.2.2.2.1)
      clear hg_ hnew_
      (rw [← yM.out] at ho61)
      have n0_ := Z0.mk (Kd.Zk (HO_8.out) hb)
      have n1_ := Z0.mk (Kd.Zk (HO_9.out) hb)
      have n2_ := Z0.mk (Kd.JG (z4.out) hb)
      have n3_ := Z0.mk (Kd.JW (z2.out) (Kd.Zn ho61) hb)
      have n4_ := Z0.mk (Kd.ZS ho61 (Z4 HB.out))
      have n5_ := Z0.mk (Z5 (g := z6) (o := .cells #[.slice A0_0 l0_0.length c0_0, .slice (some zO) l0_1.length c0_1] 30 (0, 0)) (z0.out) hb)
      have n6_ := Z0.mk (Z5 (g := z5) (o := .cells #[.slice none 0 0, .slice none 0 0] 30 (0, 0)) (z1.out) hb)
      have n7_ := Z0.mk (Z5 (g := z7) (o := .cells #[.slice Ao47 zb.length co47, zd] 30 (0, 0)) (z3.out) hb)
      have n8_ := Z0.mk (Zc HB.out hb)
      clear HO_8
      clear HO_9
      clear z4
      clear z2
      clear z0
      clear z1
      clear z3
      clear HB
      have HO_8 := n0_
      have HO_9 := n1_
      have z4 := n2_
      have z2 := n3_
      have zp := n4_
      have z0 := n5_
      have z1 := n6_
      have z3 := n7_
      have HB := n8_
      clear n0_ n1_ n2_ n3_ n4_ n5_ n6_ n7_ n8_
      clear hb ho61
      refine hK.out _ _ ⟨(Z1 z3.out 0).trans rfl, (Z1 z3.out 1).trans rfl, (Z1 z0.out 0).trans rfl, (Z1 z0.out 1).trans rfl, HS4_, ((HB.out.cell (World.block_lt_of_cell? w _ ze)).trans ze)⟩ (fun hHeld => ?_)
      clear hK K
      refine jo (a' := ?_) ?_ ?_
      rotate_left
      ·show Act.put _ (some 88) _ = _
       simp only [n_]
       rfl
      refine jV (i := 11) (N := some 97) #[true, true, true, true, true, true, true, true, true, true, true, true, false, false, false, false] rfl rfl (ja HT_.out (by kernel_rfl)) (by decide) (fun K hK => ?_)
      refine Kd.zae k53 (w0 := w) w.heap.size (by rfl) (.tmp 88) (.tmp 96) 42 53 (.agg #[(.int .i64 0), (.int .i64 0), (.int .i64 0)]) 24 rfl Tryd.underlying42 zgy rfl (by decide) (by omega) yY zz (ZF l0_1 (rd za x12_2)) _ _ _ (fun _ => True) (fun _ => False) rfl rfl ?aO ?aR (fun _ _ h => h) (fun _ h => h.elim) ?aF ?aB ?aS ?aL ?_
      (case aR => repeat (exact (Kd.jm y6.out HB.out)))
      (case aB => exact HB.out)
      (case aF => exact (fun _ _ => trivial))
      (case aO => exact (zp.out))
      (case aS => exact (Z4 HB.out))
      (case aL => have := LMc56.out; omega)
      intro v494 w62 ho hb hg hat
      (have HS4_ := zb2 hg (hHeld.2.2.2.2.1) (by (rw [Jw]; exact ((Kd.ZN HO_9.out (Kd.jC zp.out) (by decide)).1 _ rfl).2)))
      rw [← yN.out] at ho
      have n0_ := Z0.mk (Kd.jW (HO_8.out) (Kd.jC (zp.out)) (by decide) hg)
      have n1_ := Z0.mk (Kd.jW (HO_9.out) (Kd.jC (zp.out)) (by decide) hg)
      have n2_ := Z0.mk (Kd.ze6 (z4.out) (Kd.jC (zp.out)) (by decide) hg)
      have n3_ := Z0.mk (Kd.zak (ok := (fun _ => True)) (z2.out) hg hat)
      have n4_ := Z0.mk (Zx (g := z6) (o := .cells #[.slice A0_0 l0_0.length c0_0, .slice (some zO) l0_1.length c0_1] 30 (0, 0)) (z0.out) hg (Kd.jK zp.out z0.out (by decide)))
      have n5_ := Z0.mk (Zx (g := z5) (o := .cells #[.slice none 0 0, .slice none 0 0] 30 (0, 0)) (z1.out) hg (Kd.jK zp.out z1.out (by decide)))
      have n6_ := Z0.mk (Zx (g := z7) (o := .cells #[.slice Ao47 zb.length co47, zd] 30 (0, 0)) (z3.out) hg (Kd.jK zp.out z3.out (by decide)))
      have n7_ := Z0.mk (hb)
      have n8_ := Z0.mk (ho)
      clear HO_8
      clear HO_9
      clear z4
      clear z2
      clear z0
      clear z1
      clear z3
      clear HB
      clear zp
      have HO_8 := n0_
      have HO_9 := n1_
      have z4 := n2_
      have z2 := n3_
      have z0 := n4_
      have z1 := n5_
      have z3 := n6_
      have HB := n7_
      have y0 := n8_
      clear n0_ n1_ n2_ n3_ n4_ n5_ n6_ n7_ n8_
      clear ho hb hg hat
      obtain ⟨Ao64, co64, eo64⟩ := Kd.ZC y0.out
      (subst eo64)
      refine hK.out _ _ ⟨(Z1 z3.out 0).trans rfl, (Z1 z3.out 1).trans rfl, (Z1 z0.out 0).trans rfl, (Z1 z0.out 1).trans rfl, HS4_, ((HB.out.cell (World.block_lt_of_cell? w _ ze)).trans ze)⟩ (fun hHeld => ?_)
      clear hK K
      refine jo (a' := ?_) ?_ ?_
      rotate_left
      ·show Act.put _ (some 97) _ = _
       simp only [n_]
       rfl
      refine jV (i := 12) (N := some 98) #[true, true, true, true, true, true, true, true, true, true, true, true, true, false, false, false] rfl rfl (ja HT_.out (by kernel_rfl)) (by decide) (fun K hK => ?_)
      refine zcc (w1 := ?_) (v := ?_) (by rfl) rfl ?_ ?_
      rotate_left 2
      ·go_simp
       constructor
       ·rfl
       ·rfl
      refine hK.out _ _ ⟨(Z1 (jP z3.out _) 0).trans rfl, (Z1 (jP z3.out _) 1).trans rfl, (Z1 (jP z0.out _) 0).trans rfl, (Z1 (jP z0.out _) 1).trans rfl, (World.cell?_alloc_lt _ _ _ (World.block_lt_of_cell? _ _ (hHeld.2.2.2.2.1))).trans (hHeld.2.2.2.2.1), (World.cell?_alloc_lt _ _ _ (World.block_lt_of_cell? _ _ (((HB.out.cell (World.block_lt_of_cell? w _ ze)).trans ze)))).trans (((HB.out.cell (World.block_lt_of_cell? w _ ze)).trans ze))⟩ (fun hHeld => ?_)
      clear hK K
      refine jo (a' := ?_) ?_ ?_
      rotate_left
      ·show Act.put _ (some 98) _ = _
       simp only [n_]
       rfl
      refine jV (i := 13) (N := some 99) #[true, true, true, true, true, true, true, true, true, true, true, true, true, true, false, false] rfl rfl (ja HT_.out (by kernel_rfl)) (by decide) (fun K hK => ?_)
      refine Kd.zar (Kd.slice 53 k53) (w0 := w) w.heap.size (by rfl) (.tmp 87) (.tmp 98) 28 42 (.slice none 0 0) 24 rfl Tryd.underlying28 zdq rfl (by decide) (by omega) zd z8 y1 [.slice Ao64 y1.length co64] (fun _ => True) (fun k_ => some k_ = (.slice Ao64 y1.length co64 : Value).ownBlock) rfl rfl ?aP (fun k_ hk_ => ((Kd.Z9 (ok' := fun k_ => ((fun _ => True)) k_ ∧ some k_ ≠ (zd : Value).ownBlock) (Kd.ZN (y0.out) (Kd.jx z2.out) (by decide)) (fun k_ hk => ⟨trivial, hk.2⟩))).1 k_ hk_.symm) ?aF ?aO ?aB ?aS ?aL ?_
      (case aP => exact Kd.ze3 (Kd.Z9 (Kd.JU rfl (Kd.Z9 (ok' := fun k_ => ((fun _ => True)) k_ ∧ some k_ ≠ (zd : Value).ownBlock) (Kd.ZN (y0.out) (Kd.jx z2.out) (by decide)) (fun k_ hk => ⟨trivial, hk.2⟩))) (fun _ h_ => h_)))
      (case aB => exact HB.out)
      (case aF => exact (fun _ _ => trivial))
      (case aO => exact (Kd.jt z2.out (fun k_ hk => ⟨trivial, fun e_ => hk.2 e_⟩)))
      (case aS => exact (Z4 HB.out))
      (case aL => have := LMc57.out; omega)
      intro v497 w63 ho hb hg hat
      (have HS4_ := zb2 hg (zb5 (hHeld.2.2.2.2.1) (by (rw [Jw]; exact Kd.ZA HO_9.out _ rfl))) (by (rw [Jw]; exact ((Kd.ZN HO_9.out (Kd.jx z2.out) (by decide)).1 _ rfl).2)))
      rw [← yO.out] at ho
      have n0_ := Z0.mk (Kd.jW (HO_8.out) (Kd.jx (z2.out)) (by decide) hg)
      have n1_ := Z0.mk (Kd.jW (HO_9.out) (Kd.jx (z2.out)) (by decide) hg)
      have n2_ := Z0.mk (Kd.ze6 (z4.out) (Kd.jx (z2.out)) (by decide) hg)
      have n3_ := Z0.mk (Zx (g := z6) (o := .cells #[.slice A0_0 l0_0.length c0_0, .slice (some zO) l0_1.length c0_1] 30 (0, 0)) (z0.out) hg (Kd.zaz z2.out z0.out (by decide)))
      have n4_ := Z0.mk (Zx (g := z5) (o := .cells #[.slice none 0 0, .slice none 0 0] 30 (0, 0)) (z1.out) hg (Kd.zaz z2.out z1.out (by decide)))
      have n5_ := Z0.mk (Zx (g := z7) (o := .cells #[.slice Ao47 zb.length co47, zd] 30 (0, 0)) (z3.out) hg (Kd.zaz z2.out z3.out (by decide)))
      have n6_ := Z0.mk (hb)
      have n7_ := Z0.mk (ho)
      clear HO_8
      clear HO_9
      clear z4
      clear z0
      clear z1
      clear z3
      clear HB
      clear z2
      clear y0
      have HO_8 := n0_
      have HO_9 := n1_
      have z4 := n2_
      have z0 := n3_
      have z1 := n4_
      have z3 := n5_
      have HB := n6_
      have yx := n7_
      clear n0_ n1_ n2_ n3_ n4_ n5_ n6_ n7_
      clear ho hb hg hat
      obtain ⟨Ao65, co65, eo65⟩ := Kd.Jz yx.out
      (subst eo65)
      refine hK.out _ _ ⟨(Z1 z3.out 0).trans rfl, (Z1 z3.out 1).trans rfl, (Z1 z0.out 0).trans rfl, (Z1 z0.out 1).trans rfl, HS4_, ((HB.out.cell (World.block_lt_of_cell? w _ ze)).trans ze)⟩ (fun hHeld => ?_)
      clear hK K
      refine jo (a' := ?_) ?_ ?_
      rotate_left
      ·show Act.put _ (some 99) _ = _
       simp only [n_]
       rfl
      refine ZD (i := 14) (N := some 100) (v := ?_) (a' := ?_) #[true, true, true, true, true, true, true, true, true, true, true, true, true, true, true, false] rfl rfl (Zw HT_.out (by kernel_rfl)) (fun _ _ _ h => h) (Or.inl ⟨by rfl, ?_⟩) ?_ ?_
      rotate_left
      ·intro w'
       go_simp
       with_reducible rfl
      rotate_left
      ·simp only [n_]
       rfl
      refine zau (i := 15) (N := none) #[true, true, true, true, true, true, true, true, true, true, true, true, true, true, true, true] rfl rfl (ja HT_.out (by kernel_rfl)) (by decide) (fun K hK => ?_)
      have hs66 : w63.cell? ⟨z7, 1, none⟩ = some (zd) := (Z1 z3.out 1).trans rfl
      have hfs66 := Z2 z3.out 1
      have hns66_0 := zn.out
      have hns66_1 := zj.out
      have hms66_0 := zX.out
      have hms66_1 := zh.out
      refine za9 (w1 := ?_) (by rfl) rfl ?_ ?_
      rotate_left
      ·go_simp
       rfl
      refine hK.out _ _ ?_
      clear hK K
      refine JE (Ji HT_.out (by kernel_rfl)) ?_
      try go_wp2
      go_roundg k2
      case measure => have := HK1.out; have := HK2.out; omega
      case rel => exact ⟨(wrap64 (x12_2 + 1)), (zG), (.slice Ao65 zG.length co65), (by rfl), H', ⟨by have := HK1.out; have := HK2.out; omega⟩, ⟨Kd.Z9 (Kd.Zb (p := ⟨z7, 1, none⟩) (Kd.Zd HO_8.out z3.out (by decide)) (fun _ hk => hk.2) (.slice Ao65 zG.length co65)) (fun _ hk => hk.1)⟩, ⟨Kd.Z9 (Kd.Zb (p := ⟨z7, 1, none⟩) (Kd.Zd HO_9.out z3.out (by decide)) (fun _ hk => hk.2) (.slice Ao65 zG.length co65)) (fun _ hk => hk.1)⟩, ⟨Kd.jt (Kd.Jn (p := ⟨z7, 1, none⟩) (Kd.jY z4.out z3.out (by decide)) (fun _ hk => hk.2) (.slice Ao65 zG.length co65)) (fun _ hk => ⟨hk.1.1, hk.1.2⟩)⟩, ⟨Kd.jt (Kd.Jn (p := ⟨z7, 1, none⟩) (Kd.jY yx.out z3.out (by decide)) (fun _ hk => hk.2) (.slice Ao65 zG.length co65)) (fun _ hk => trivial)⟩, ⟨by refine Zo ?_ zn.out _; exact z0.out⟩, ⟨by refine Zo ?_ zj.out _; exact z1.out⟩, ⟨by refine ZJ (cs := #[.slice Ao47 zb.length co47, zd]) ?_ 1 _ rfl; exact z3.out⟩, ⟨by repeat ((with_reducible first | exact HB.out | refine ZB ?_ yw.out))⟩⟩
   rw [if_pos c10] at H
   have c10b0 : decide (x6_1 < (x4_1.length : Int)) = true := decide_eq_true c10
   clear c10
   by_cases c11 : 0 ≤ x6_1
   rotate_left
   ·rw [if_neg c11] at H
    exact absurd H (by simp)
   rw [if_pos c11] at H
   have c11b0 : decide (0 ≤ x6_1) = true := decide_eq_true c11
   clear c11
   obtain ⟨ym, yb⟩ : ∃ y_ : List Int, y_ = (x4_1.set (x6_1 : Int).toNat (-1)) := ⟨_, rfl⟩
   replace H : (Z6.l1 k1 ym x5_1 x6_1 0 l0_0 l0_1) = some (r1, r2, r3) := by (rw [yb]; with_reducible exact H)
   have yQ := Z0.mk yb
   clear yb
   have H' := Z0.mk H
   clear H
   obtain ⟨Ao13, co13, eo13⟩ := Kd.ZC HO_4.out
   subst eo13
   have p12 : 0 ≤ (x6_1 : Int) := of_decide_eq_true (by (with_reducible assumption))
   have q12 : (x6_1 : Int) < ((x4_1.length : Int) : Int) := of_decide_eq_true (by (with_reducible assumption))
   obtain ⟨go12, co12, eo12, gb12, gl12, cl12, HG12⟩ := Kd.zaf HO_4.out (by omega)
   (cases eo12)
   have GB12 := Z0.mk gb12
   have GG12 := Z0.mk HG12
   clear gb12 gl12 HG12
   obtain ⟨hx12_0, hf12_0⟩ := Kd.jZ 0 HO_4.out (x6_1 : Int) p12 q12
   replace p12 := eq_true p12
   replace q12 := eq_true q12
   have HP14 := Kd.Je HO_4.out (x6_1 : Int) (-1)
   go_wp2_with (((with_reducible refine jS (t := 3) (p := 25) rfl ?_); refine jF (t := 3) (p := 25) (v := ?vo_w15) (w1 := (wr.setCell ⟨go12, (x6_1 : Int).toNat, none⟩ (.int .i64 (-1)))) ?hg ?ho ?hn ?hr ?_; (case ho => rfl); (case hg => rfl); (case hn => rfl); (case hr => (go_simp; done)); intro w15 hw; have hg : wr.grownBy w15 (some go12) := (by rw [hw]; exact HP14.2); have hp_ : Kd.R (Kd.int .i64) 3 w15 w.heap.size (fun _ => True) (.slice (some ⟨go12, 0, none⟩) x4_1.length co13) ym := (by rw [hw, yQ.out]; exact HP14.1); clear HP14; have n0_ := Z0.mk (hp_); have n1_ := Z0.mk (Zx (g := z6) (o := .cells #[.slice A0_0 l0_0.length c0_0, .slice A0_1 l0_1.length c0_1] 30 (0, 0)) (z0.out) hg (Kd.jK HO_4.out z0.out (by decide))); have n2_ := Z0.mk (Zx (g := z5) (o := .cells #[.slice none 0 0, .slice none 0 0] 30 (0, 0)) (z1.out) hg (Kd.jK HO_4.out z1.out (by decide))); have n3_ := Z0.mk ((by rw [hw]; exact ZB HB.out GB12.out : Below w.heap.size w w15)); clear HO_4; clear z0; clear z1; clear HB; have HO_4 := n0_; have z0 := n1_; have z1 := n2_; have HB := n3_; clear n0_ n1_ n2_ n3_; clear hg hw hp_))
   go_loopg [7] k1 (fun kq v7 w' => ∃ (x4_2 : List Int) (x7_2 : Int), v7 = .int .i64 x7_2 ∧ Z0 (Z6.l1 kq x4_2 x5_1 x6_1 x7_2 l0_0 l0_1 = some (r1, r2, r3)) ∧ Z0 (kq ≤ k1) ∧ Z0 (Kd.R (Kd.int .i64) 3 w' w.heap.size (fun _ => True) (.slice (some ⟨go12, 0, none⟩) x4_1.length co13) x4_2) ∧ Z0 (w'.heap[z6]? = some (.cells #[(.slice A0_0 l0_0.length c0_0), (.slice A0_1 l0_1.length c0_1)] 30 (0, 0))) ∧ Z0 (w'.heap[z5]? = some (.cells #[(.slice none 0 0), (.slice none 0 0)] 30 (0, 0))) ∧ Z0 (Below w.heap.size w w'))
   case atStart => exact ⟨(ym), (0), (by rfl), H', ⟨Nat.le_refl _⟩, ⟨HO_4.out⟩, ⟨z0.out⟩, ⟨z1.out⟩, ⟨HB.out⟩⟩
   case round =>
    clear H'
    clear c10b0 c11b0 p12 q12 hx12_0
    obtain ⟨x4_2, x7_2, rfl, HA, HK2, HO_4, z0, z1, HB⟩ := hrel
    have hl4_2 := (Kd.Zg HO_4.out).1
    rw [hl4_2] at HO_4
    (try simp only [hl4_2])
    (try simp only [hl4_2] at z0)
    (try simp only [hl4_2] at z1)
    cases gk with
    | zero => exact absurd HA.out (by simp [Z6.l1])
    | succ k2 =>
     have H := HA.out
     clear HA
     simp only [Z6.l1] at H
     have HC16 := Z0.mk H
     clear H
     go_upto_region 8 with (fail)
     go_cut [35] (fun v35 wc => ∃ (kq : Nat) (x35_15 : Bool), v35 = .bool x35_15 ∧ Z0 (Z6.j2 kq x4_2 x5_1 x6_1 x7_2 x35_15 l0_0 l0_1 = some (r1, r2, r3)) ∧ Z0 (kq ≤ k2) ∧ Z0 (Kd.R (Kd.int .i64) 3 wc w.heap.size (fun _ => True) (.slice (some ⟨go12, 0, none⟩) x4_2.length co13) x4_2) ∧ Z0 (wc.heap[z6]? = some (.cells #[(.slice A0_0 l0_0.length c0_0), (.slice A0_1 l0_1.length c0_1)] 30 (0, 0))) ∧ Z0 (wc.heap[z5]? = some (.cells #[(.slice none 0 0), (.slice none 0 0)] 30 (0, 0))) ∧ Z0 (Below w.heap.size w wc))
     case first =>
      have H := HC16.out
      clear HC16
      by_cases c17 : x7_2 < x6_1
      rotate_left
      ·rw [if_neg c17] at H
       have c17b0 : decide (x7_2 < x6_1) = false := decide_eq_false c17
       clear c17
       (skip)
       have H' := Z0.mk H
       clear H
       go_wp2
       go_meet
       case rel => exact ⟨_, (false), (by rfl), H', ⟨by have := HK1.out; have := HK2.out; omega⟩, ⟨by (try simp only [hl4_2]); exact HO_4.out⟩, ⟨by (try simp only [hl4_2]); exact z0.out⟩, ⟨by (try simp only [hl4_2]); exact z1.out⟩, ⟨HB.out⟩⟩
      rw [if_pos c17] at H
      have c17b0 : decide (x7_2 < x6_1) = true := decide_eq_true c17
      clear c17
      (skip)
      by_cases c18 : 0 ≤ x6_1
      rotate_left
      ·rw [if_neg c18] at H
       exact absurd H (by simp)
      rw [if_pos c18] at H
      have c18b0 : decide (0 ≤ x6_1) = true := decide_eq_true c18
      clear c18
      by_cases c19 : x6_1 < (x4_2.length : Int)
      rotate_left
      ·rw [if_neg c19] at H
       exact absurd H (by simp)
      rw [if_pos c19] at H
      have c19b0 : decide (x6_1 < (x4_2.length : Int)) = true := decide_eq_true c19
      clear c19
      have H' := Z0.mk H
      clear H
      have yn : 0 ≤ (x6_1 : Int) := of_decide_eq_true (by (with_reducible assumption))
      have yo : x6_1 < (x4_2.length : Int) := of_decide_eq_true (by (with_reducible assumption))
      obtain ⟨yR, yZ, yy⟩ := Kd.ZG (Kd.Zg HO_4.out).2.2 x6_1 yn yo
      obtain rfl : (⟨go12, 0, none⟩ : Addr) = yR := (by injection yZ)
      (simp only [add_plain] at yy)
      replace yn := eq_true yn
      replace yo := eq_true yo
      go_wp2
      go_meet
      case rel => exact ⟨_, (decide ((rd x4_2 x6_1) < 0)), (by rfl), H', ⟨by have := HK1.out; have := HK2.out; omega⟩, ⟨by (try simp only [hl4_2]); exact HO_4.out⟩, ⟨by (try simp only [hl4_2]); exact z0.out⟩, ⟨by (try simp only [hl4_2]); exact z1.out⟩, ⟨HB.out⟩⟩
     case rest =>
      clear HC16
      obtain ⟨kq, x35_15, rfl, HA, HJ15, HO_4, z0, z1, HB⟩ := hcut
      cases kq with
      | zero => exact absurd HA.out (by simp [Z6.j2])
      | succ kj15 =>
       have H := HA.out
       clear HA
       simp only [Z6.j2] at H
       by_cases c20 : x35_15 = true
       rotate_left
       ·replace c20 := Bool.eq_false_iff.mpr c20
        subst c20
        have H1 : (if 0 ≤ x6_1 then (if x6_1 < (x4_2.length : Int) then (if (rd x4_2 x6_1) < 0 then (Z6.l0 kj15 (x4_2.set (x6_1 : Int).toNat x5_1) (wrap64 (x5_1 + 1)) (wrap64 (x6_1 + 1)) l0_0 l0_1) else (Z6.l0 kj15 x4_2 x5_1 (wrap64 (x6_1 + 1)) l0_0 l0_1)) else (none)) else (none)) = some (r1, r2, r3) := by rw [if_neg (show ¬ (false = true) by decide)] at H; exact H
        clear H
        have H := H1
        clear H1
        by_cases c34 : 0 ≤ x6_1
        rotate_left
        ·rw [if_neg c34] at H
         exact absurd H (by simp)
        rw [if_pos c34] at H
        have c34b0 : decide (0 ≤ x6_1) = true := decide_eq_true c34
        clear c34
        by_cases c35 : x6_1 < (x4_2.length : Int)
        rotate_left
        ·rw [if_neg c35] at H
         exact absurd H (by simp)
        rw [if_pos c35] at H
        have c35b0 : decide (x6_1 < (x4_2.length : Int)) = true := decide_eq_true c35
        clear c35
        by_cases c36 : (rd x4_2 x6_1) < 0
        rotate_left
        ·rw [if_neg c36] at H
         have c36b0 : decide ((rd x4_2 x6_1) < 0) = false := decide_eq_false c36
         clear c36
         have H' := Z0.mk H
         clear H
         have zH : 0 ≤ (x6_1 : Int) := of_decide_eq_true (by (with_reducible assumption))
         have zI : x6_1 < (x4_2.length : Int) := of_decide_eq_true (by (with_reducible assumption))
         obtain ⟨yc, yp, zU⟩ := Kd.ZG (Kd.Zg HO_4.out).2.2 x6_1 zH zI
         obtain rfl : (⟨go12, 0, none⟩ : Addr) = yc := (by injection yp)
         (simp only [add_plain] at zU)
         replace zH := eq_true zH
         replace zI := eq_true zI
         go_wp2
         (try simp only [← hl4_2])
         go_roundg kj15
         case measure => have := HK1.out; have := HK2.out; have := HJ15.out; omega
         case rel => exact ⟨(x4_2), (x5_1), (wrap64 (x6_1 + 1)), (by rfl), (by rfl), H', ⟨by have := HK1.out; have := HK2.out; have := HJ15.out; omega⟩, ⟨by (try simp only [hl4_2]); exact HO_4.out⟩, ⟨by (try simp only [hl4_2]); exact z0.out⟩, ⟨by (try simp only [hl4_2]); exact z1.out⟩, ⟨HB.out⟩⟩
        rw [if_pos c36] at H
        have c36b0 : decide ((rd x4_2 x6_1) < 0) = true := decide_eq_true c36
        clear c36
        obtain ⟨yq, yd⟩ : ∃ y_ : List Int, y_ = (x4_2.set (x6_1 : Int).toNat x5_1) := ⟨_, rfl⟩
        replace H : (Z6.l0 kj15 yq (wrap64 (x5_1 + 1)) (wrap64 (x6_1 + 1)) l0_0 l0_1) = some (r1, r2, r3) := by (rw [yd]; with_reducible exact H)
        have yS := Z0.mk yd
        clear yd
        have H' := Z0.mk H
        clear H
        have zH : 0 ≤ (x6_1 : Int) := of_decide_eq_true (by (with_reducible assumption))
        have zI : x6_1 < (x4_2.length : Int) := of_decide_eq_true (by (with_reducible assumption))
        obtain ⟨yc, yp, zU⟩ := Kd.ZG (Kd.Zg HO_4.out).2.2 x6_1 zH zI
        obtain rfl : (⟨go12, 0, none⟩ : Addr) = yc := (by injection yp)
        (simp only [add_plain] at zU)
        replace zH := eq_true zH
        replace zI := eq_true zI
        have p37 : 0 ≤ (x6_1 : Int) := of_decide_eq_true (by (with_reducible assumption))
        have q37 : (x6_1 : Int) < ((x4_2.length : Int) : Int) := of_decide_eq_true (by (with_reducible assumption))
        obtain ⟨hx37_0, hf37_0⟩ := Kd.jZ 0 HO_4.out (x6_1 : Int) p37 q37
        replace p37 := eq_true p37
        replace q37 := eq_true q37
        have HP38 := Kd.Je HO_4.out (x6_1 : Int) x5_1
        go_wp2_with (((with_reducible refine jS (t := 3) (p := 64) rfl ?_); refine jF (t := 3) (p := 64) (v := ?vo_w39) (w1 := (wc.setCell ⟨go12, (x6_1 : Int).toNat, none⟩ (.int .i64 x5_1))) ?hg ?ho ?hn ?hr ?_; (case ho => rfl); (case hg => rfl); (case hn => rfl); (case hr => (go_simp; done)); intro w39 hw; have hg : wc.grownBy w39 (some go12) := (by rw [hw]; exact HP38.2); have hp_ : Kd.R (Kd.int .i64) 3 w39 w.heap.size (fun _ => True) (.slice (some ⟨go12, 0, none⟩) x4_2.length co13) yq := (by rw [hw, yS.out]; exact HP38.1); clear HP38; have n0_ := Z0.mk (hp_); have n1_ := Z0.mk (Zx (g := z6) (o := .cells #[.slice A0_0 l0_0.length c0_0, .slice A0_1 l0_1.length c0_1] 30 (0, 0)) (z0.out) hg (Kd.jK HO_4.out z0.out (by decide))); have n2_ := Z0.mk (Zx (g := z5) (o := .cells #[.slice none 0 0, .slice none 0 0] 30 (0, 0)) (z1.out) hg (Kd.jK HO_4.out z1.out (by decide))); have n3_ := Z0.mk ((by rw [hw]; exact ZB HB.out GB12.out : Below w.heap.size w w39)); clear HO_4; clear z0; clear z1; clear HB; have HO_4 := n0_; have z0 := n1_; have z1 := n2_; have HB := n3_; clear n0_ n1_ n2_ n3_; clear hg hw hp_))
        (try simp only [← hl4_2])
        go_roundg kj15
        case measure => have := HK1.out; have := HK2.out; have := HJ15.out; omega
        case rel => exact ⟨(yq), (wrap64 (x5_1 + 1)), (wrap64 (x6_1 + 1)), (by rfl), (by rfl), H', ⟨by have := HK1.out; have := HK2.out; have := HJ15.out; omega⟩, ⟨by (try simp only [hl4_2]); exact HO_4.out⟩, ⟨by (try simp only [hl4_2]); exact z0.out⟩, ⟨by (try simp only [hl4_2]); exact z1.out⟩, ⟨HB.out⟩⟩
       subst c20
       have H1 : (if 0 ≤ x7_2 then (if x7_2 < (l0_1.length : Int) then (if 0 ≤ x6_1 then (if x6_1 < (l0_1.length : Int) then ((ZZ.f kj15 (ZF l0_1 x7_2) (ZF l0_1 x6_1)).bind fun zQ => (if zQ = true then (if x7_2 < (x4_2.length : Int) then (if x6_1 < (x4_2.length : Int) then (Z6.l1 kj15 (x4_2.set (x6_1 : Int).toNat (rd x4_2 x7_2)) x5_1 x6_1 (wrap64 (x7_2 + 1)) l0_0 l0_1) else (none)) else (none)) else (Z6.l1 kj15 x4_2 x5_1 x6_1 (wrap64 (x7_2 + 1)) l0_0 l0_1))) else (none)) else (none)) else (none)) else (none)) = some (r1, r2, r3) := by rw [if_pos rfl] at H; exact H
       clear H
       have H := H1
       clear H1
       by_cases c21 : 0 ≤ x7_2
       rotate_left
       ·rw [if_neg c21] at H
        exact absurd H (by simp)
       rw [if_pos c21] at H
       have c21b0 : decide (0 ≤ x7_2) = true := decide_eq_true c21
       clear c21
       by_cases c22 : x7_2 < (l0_1.length : Int)
       rotate_left
       ·rw [if_neg c22] at H
        exact absurd H (by simp)
       rw [if_pos c22] at H
       have c22b0 : decide (x7_2 < (l0_1.length : Int)) = true := decide_eq_true c22
       clear c22
       by_cases c23 : 0 ≤ x6_1
       rotate_left
       ·rw [if_neg c23] at H
        exact absurd H (by simp)
       rw [if_pos c23] at H
       have c23b0 : decide (0 ≤ x6_1) = true := decide_eq_true c23
       clear c23
       by_cases c24 : x6_1 < (l0_1.length : Int)
       rotate_left
       ·rw [if_neg c24] at H
        exact absurd H (by simp)
       rw [if_pos c24] at H
       have c24b0 : decide (x6_1 < (l0_1.length : Int)) = true := decide_eq_true c24
       clear c24
       replace H := Option.bind_eq_some_iff.mp H
       obtain ⟨zQ, yH, H⟩ := H
       replace H : (if zQ = true then (if x7_2 < (x4_2.length : Int) then (if x6_1 < (x4_2.length : Int) then (Z6.l1 kj15 (x4_2.set (x6_1 : Int).toNat (rd x4_2 x7_2)) x5_1 x6_1 (wrap64 (x7_2 + 1)) l0_0 l0_1) else (none)) else (none)) else (Z6.l1 kj15 x4_2 x5_1 x6_1 (wrap64 (x7_2 + 1)) l0_0 l0_1)) = some (r1, r2, r3) := H
       have A25 := Z0.mk yH
       clear yH
       by_cases c26 : zQ = true
       rotate_left
       ·replace c26 := Bool.eq_false_iff.mpr c26
        subst c26
        have H1 : (Z6.l1 kj15 x4_2 x5_1 x6_1 (wrap64 (x7_2 + 1)) l0_0 l0_1) = some (r1, r2, r3) := by rw [if_neg (show ¬ (false = true) by decide)] at H; exact H
        clear H
        have H := H1
        clear H1
        have H' := Z0.mk H
        clear H
        try go_wp2
        have n0_ := Z0.mk (Kd.jv HO_4.out)
        have n1_ := Z0.mk (ZV z0.out)
        have n2_ := Z0.mk (ZV z1.out)
        have n3_ := Z0.mk (jM HB.out)
        clear HO_4
        clear z0
        clear z1
        clear HB
        have HO_4 := n0_
        have z0 := n1_
        have z1 := n2_
        have HB := n3_
        clear n0_ n1_ n2_ n3_
        have zJ : 0 ≤ (x7_2 : Int) := of_decide_eq_true (by (with_reducible assumption))
        have zK : x7_2 < (l0_1.length : Int) := of_decide_eq_true (by (with_reducible assumption))
        obtain ⟨zm, zB, zC, yr, zf, zs, zt⟩ := zai HR0_1.out x7_2 zJ zK
        have zk := zf
        cases yr
        replace zf := (HB.out.cell (World.block_lt_of_cell? w _ zf)).trans zf
        have zu := Z0.mk zt
        have zV := Z0.mk zs
        clear zt zs
        replace zJ := eq_true zJ
        replace zK := eq_true zK
        have zL : 0 ≤ (x6_1 : Int) := of_decide_eq_true (by (with_reducible assumption))
        have zM : x6_1 < (l0_1.length : Int) := of_decide_eq_true (by (with_reducible assumption))
        obtain ⟨ye, zD, zE, ys, zg, zv, zw⟩ := zai HR0_1.out x6_1 zL zM
        have zl := zg
        obtain rfl : zm = ye := (by injection ys)
        replace zg := (HB.out.cell (World.block_lt_of_cell? w _ zg)).trans zg
        have zx := Z0.mk zw
        have zW := Z0.mk zv
        clear zw zv
        replace zL := eq_true zL
        replace zM := eq_true zM
        refine Jq (n := 11) (S := fun w' => w'.cell? ⟨z6, 0, none⟩ = some (.slice A0_0 l0_0.length c0_0) ∧ w'.cell? ⟨z6, 1, none⟩ = some (.slice (some zm) l0_1.length c0_1) ∧ w'.cell? (zm.add (x7_2).toNat) = some (.slice zB (ZF l0_1 x7_2).length zC) ∧ w'.cell? (zm.add (x6_1).toNat) = some (.slice zD (ZF l0_1 x6_1).length zE)) (ds := []) #[false, false, false, false, false, false, false, false, false, false, false] (by kernel_rfl) rfl rfl ⟨(Z1 z0.out 0).trans rfl, (Z1 z0.out 1).trans rfl, ((HB.out.cell (World.block_lt_of_cell? w _ zk)).trans zk), ((HB.out.cell (World.block_lt_of_cell? w _ zl)).trans zl)⟩ (fun hHeld => ?_); refine J1 Z6.zf2 Z6.zdp (fun HT_ HW_ => ?_)
        generalize wc.drew = w33 at HO_4 z0 z1 HB zu zx zf zg hHeld ⊢
        refine ZD (i := 0) (N := some 38) (v := ?_) (a' := ?_) #[true, false, false, false, false, false, false, false, false, false, false] rfl rfl (Zw HT_.out (by kernel_rfl)) (fun _ _ _ h => h) (Or.inl ⟨by rfl, ?_⟩) ?_ ?_
        rotate_left
        ·intro w'
         go_simp
         with_reducible rfl
        rotate_left
        ·simp only [n_]
         rfl
        refine ZD (i := 2) (N := some 40) (v := ?_) (a' := ?_) #[true, false, true, false, false, false, false, false, false, false, false] rfl rfl (Zw HT_.out (by kernel_rfl)) (fun _ _ _ h => h) (Or.inl ⟨by rfl, ?_⟩) ?_ ?_
        rotate_left
        ·intro w'
         go_simp
         with_reducible rfl
        rotate_left
        ·simp only [n_]
         rfl
        refine ZD (i := 5) (N := some 43) (v := ?_) (a' := ?_) #[true, false, true, false, false, true, false, false, false, false, false] rfl rfl (Zw HT_.out (by kernel_rfl)) (fun _ _ _ h => h) (Or.inl ⟨by rfl, ?_⟩) ?_ ?_
        rotate_left
        ·intro w'
         go_simp
         with_reducible rfl
        rotate_left
        ·simp only [n_]
         rfl
        refine ZD (i := 7) (N := some 45) (v := ?_) (a' := ?_) #[true, false, true, false, false, true, false, true, false, false, false] rfl rfl (Zw HT_.out (by kernel_rfl)) (fun _ _ _ h => h) (Or.inl ⟨by rfl, ?_⟩) ?_ ?_
        rotate_left
        ·intro w'
         go_simp
         with_reducible rfl
        rotate_left
        ·simp only [n_]
         rfl
        refine js (i := 1) (N := some 39) (v := ?_) (a' := ?_) #[true, true, true, false, false, true, false, true, false, false, false] rfl rfl (ZT HT_.out HW_.out (by kernel_rfl)) (fun _ _ _ h => h) (Or.inl ⟨by rfl, ?_⟩) hHeld ?_ ?_
        rotate_left
        ·rintro w' ⟨s0, s1, s2, s3⟩
         go_simp
         with_reducible rfl
        rotate_left
        ·simp only [n_]
         rfl
        refine ZD (i := 3) (N := some 41) (v := ?_) (a' := ?_) #[true, true, true, true, false, true, false, true, false, false, false] rfl rfl (Zw HT_.out (by kernel_rfl)) (fun _ _ _ h => h) (Or.inl ⟨by rfl, ?_⟩) ?_ ?_
        rotate_left
        ·intro w'
         go_simp
         with_reducible rfl
        rotate_left
        ·simp only [n_]
         rfl
        refine js (i := 4) (N := some 42) (v := ?_) (a' := ?_) #[true, true, true, true, true, true, false, true, false, false, false] rfl rfl (ZT HT_.out HW_.out (by kernel_rfl)) (fun _ _ _ h => h) (Or.inl ⟨by rfl, ?_⟩) hHeld ?_ ?_
        rotate_left
        ·rintro w' ⟨s0, s1, s2, s3⟩
         go_simp
         with_reducible rfl
        rotate_left
        ·simp only [n_]
         rfl
        refine js (i := 6) (N := some 44) (v := ?_) (a' := ?_) #[true, true, true, true, true, true, true, true, false, false, false] rfl rfl (ZT HT_.out HW_.out (by kernel_rfl)) (fun _ _ _ h => h) (Or.inl ⟨by rfl, ?_⟩) hHeld ?_ ?_
        rotate_left
        ·rintro w' ⟨s0, s1, s2, s3⟩
         go_simp
         with_reducible rfl
        rotate_left
        ·simp only [n_]
         rfl
        refine ZD (i := 8) (N := some 46) (v := ?_) (a' := ?_) #[true, true, true, true, true, true, true, true, true, false, false] rfl rfl (Zw HT_.out (by kernel_rfl)) (fun _ _ _ h => h) (Or.inl ⟨by rfl, ?_⟩) ?_ ?_
        rotate_left
        ·intro w'
         go_simp
         with_reducible rfl
        rotate_left
        ·simp only [n_]
         rfl
        refine js (i := 9) (N := some 47) (v := ?_) (a' := ?_) #[true, true, true, true, true, true, true, true, true, true, false] rfl rfl (ZT HT_.out HW_.out (by kernel_rfl)) (fun _ _ _ h => h) (Or.inl ⟨by rfl, ?_⟩) hHeld ?_ ?_
        rotate_left
        ·rintro w' ⟨s0, s1, s2, s3⟩
         go_simp
         with_reducible rfl
        rotate_left
        ·simp only [n_]
         rfl
        refine jV (i := 10) (N := some 48) #[true, true, true, true, true, true, true, true, true, true, true] rfl rfl (ja HT_.out (by kernel_rfl)) (by decide) (fun K hK => ?_)
        refine Jt Tryd.func26 (by kernel_rfl) rfl #[.slice zB (ZF l0_1 x7_2).length zC, .slice zD (ZF l0_1 x6_1).length zE] (by rfl) rfl rfl (by (try simp only [List.map_toArray, List.map_cons, List.map_nil]); rfl) ?_
        with_reducible refine (ZZ.calls kj15 _ _ (ZF l0_1 x7_2) _ _ (ZF l0_1 x6_1) false _ ?side1 ?side2 ?side3 ?side4 A25.out).mono ?_
        (case side1 => repeat (exact (Kd.jm zu.out HB.out)))
        (case side2 => exact zV.out)
        (case side3 => repeat (exact (Kd.jm zx.out HB.out)))
        (case side4 => exact zW.out)
        rintro e w' ⟨rfl, ⟨nd, rfl⟩⟩
        refine ⟨_, rfl, ?_⟩
        refine hK.out _ _ ⟨(Z1 z0.out 0).trans rfl, (Z1 z0.out 1).trans rfl, ((HB.out.cell (World.block_lt_of_cell? w _ zk)).trans zk), ((HB.out.cell (World.block_lt_of_cell? w _ zl)).trans zl)⟩ (fun hHeld => ?_)
        clear hK K
        refine jo (a' := ?_) ?_ ?_
        rotate_left
        ·show Act.put _ (some 48) _ = _
         simp only [n_]
         rfl
        refine JE (Ji HT_.out (by kernel_rfl)) ?_
        try go_wp2
        (try simp only [← hl4_2])
        go_roundg kj15
        case measure => have := HK1.out; have := HK2.out; have := HJ15.out; omega
        case rel => exact ⟨(x4_2), (wrap64 (x7_2 + 1)), (by rfl), H', ⟨by have := HK1.out; have := HK2.out; have := HJ15.out; omega⟩, ⟨by (try simp only [hl4_2]); (with_reducible repeat (apply Kd.Jp)); exact HO_4.out⟩, ⟨by (try simp only [hl4_2]); (with_reducible repeat (refine jL ?_ _)); exact z0.out⟩, ⟨by (try simp only [hl4_2]); (with_reducible repeat (refine jL ?_ _)); exact z1.out⟩, ⟨by repeat ((with_reducible first | exact HB.out | apply ZX))⟩⟩
       subst c26
       have H1 : (if x7_2 < (x4_2.length : Int) then (if x6_1 < (x4_2.length : Int) then (Z6.l1 kj15 (x4_2.set (x6_1 : Int).toNat (rd x4_2 x7_2)) x5_1 x6_1 (wrap64 (x7_2 + 1)) l0_0 l0_1) else (none)) else (none)) = some (r1, r2, r3) := by rw [if_pos rfl] at H; exact H
       clear H
       have H := H1
       clear H1
       by_cases c27 : x7_2 < (x4_2.length : Int)
       rotate_left
       ·rw [if_neg c27] at H
        exact absurd H (by simp)
       rw [if_pos c27] at H
       have c27b0 : decide (x7_2 < (x4_2.length : Int)) = true := decide_eq_true c27
       clear c27
       by_cases c28 : x6_1 < (x4_2.length : Int)
       rotate_left
       ·rw [if_neg c28] at H
        exact absurd H (by simp)
       rw [if_pos c28] at H
       have c28b0 : decide (x6_1 < (x4_2.length : Int)) = true := decide_eq_true c28
       clear c28
       obtain ⟨yt, yf⟩ : ∃ y_ : List Int, y_ = (x4_2.set (x6_1 : Int).toNat (rd x4_2 x7_2)) := ⟨_, rfl⟩
       replace H : (Z6.l1 kj15 yt x5_1 x6_1 (wrap64 (x7_2 + 1)) l0_0 l0_1) = some (r1, r2, r3) := by (rw [yf]; with_reducible exact H)
       have yT := Z0.mk yf
       clear yf
       have H' := Z0.mk H
       clear H
       try go_wp2
       have n0_ := Z0.mk (Kd.jv HO_4.out)
       have n1_ := Z0.mk (ZV z0.out)
       have n2_ := Z0.mk (ZV z1.out)
       have n3_ := Z0.mk (jM HB.out)
       clear HO_4
       clear z0
       clear z1
       clear HB
       have HO_4 := n0_
       have z0 := n1_
       have z1 := n2_
       have HB := n3_
       clear n0_ n1_ n2_ n3_
       have zJ : 0 ≤ (x7_2 : Int) := of_decide_eq_true (by (with_reducible assumption))
       have zK : x7_2 < (l0_1.length : Int) := of_decide_eq_true (by (with_reducible assumption))
       obtain ⟨zm, zB, zC, yr, zf, zs, zt⟩ := zai HR0_1.out x7_2 zJ zK
       have zk := zf
       cases yr
       replace zf := (HB.out.cell (World.block_lt_of_cell? w _ zf)).trans zf
       have zu := Z0.mk zt
       have zV := Z0.mk zs
       clear zt zs
       replace zJ := eq_true zJ
       replace zK := eq_true zK
       have zL : 0 ≤ (x6_1 : Int) := of_decide_eq_true (by (with_reducible assumption))
       have zM : x6_1 < (l0_1.length : Int) := of_decide_eq_true (by (with_reducible assumption))
       obtain ⟨ye, zD, zE, ys, zg, zv, zw⟩ := zai HR0_1.out x6_1 zL zM
       have zl := zg
       obtain rfl : zm = ye := (by injection ys)
       replace zg := (HB.out.cell (World.block_lt_of_cell? w _ zg)).trans zg
       have zx := Z0.mk zw
       have zW := Z0.mk zv
       clear zw zv
       replace zL := eq_true zL
       replace zM := eq_true zM
       refine Jq (n := 11) (S := fun w' => w'.cell? ⟨z6, 0, none⟩ = some (.slice A0_0 l0_0.length c0_0) ∧ w'.cell? ⟨z6, 1, none⟩ = some (.slice (some zm) l0_1.length c0_1) ∧ w'.cell? (zm.add (x7_2).toNat) = some (.slice zB (ZF l0_1 x7_2).length zC) ∧ w'.cell? (zm.add (x6_1).toNat) = some (.slice zD (ZF l0_1 x6_1).length zE)) (ds := []) #[false, false, false, false, false, false, false, false, false, false, false] (by kernel_rfl) rfl rfl ⟨(Z1 z0.out 0).trans rfl, (Z1 z0.out 1).trans rfl, ((HB.out.cell (World.block_lt_of_cell? w _ zk)).trans zk), ((HB.out.cell (World.block_lt_of_cell? w _ zl)).trans zl)⟩ (fun hHeld => ?_); refine J1 Z6.zf2 Z6.zdp (fun HT_ HW_ => ?_)
       generalize wc.drew = w30 at HO_4 z0 z1 HB zu zx zf zg hHeld ⊢
       refine ZD (i := 0) (N := some 38) (v := ?_) (a' := ?_) #[true, false, false, false, false, false, false, false, false, false, false] rfl rfl (Zw HT_.out (by kernel_rfl)) (fun _ _ _ h => h) (Or.inl ⟨by rfl, ?_⟩) ?_ ?_
       rotate_left
       ·intro w'
        go_simp
        with_reducible rfl
       rotate_left
       ·simp only [n_]
        rfl
       refine ZD (i := 2) (N := some 40) (v := ?_) (a' := ?_) #[true, false, true, false, false, false, false, false, false, false, false] rfl rfl (Zw HT_.out (by kernel_rfl)) (fun _ _ _ h => h) (Or.inl ⟨by rfl, ?_⟩) ?_ ?_
       rotate_left
       ·intro w'
        go_simp
        with_reducible rfl
       rotate_left
       ·simp only [n_]
        rfl
       refine ZD (i := 5) (N := some 43) (v := ?_) (a' := ?_) #[true, false, true, false, false, true, false, false, false, false, false] rfl rfl (Zw HT_.out (by kernel_rfl)) (fun _ _ _ h => h) (Or.inl ⟨by rfl, ?_⟩) ?_ ?_
       rotate_left
       ·intro w'
        go_simp
        with_reducible rfl
       rotate_left
       ·simp only [n_]
        rfl
       refine ZD (i := 7) (N := some 45) (v := ?_) (a' := ?_) #[true, false, true, false, false, true, false, true, false, false, false] rfl rfl (Zw HT_.out (by kernel_rfl)) (fun _ _ _ h => h) (Or.inl ⟨by rfl, ?_⟩) ?_ ?_
       rotate_left
       ·intro w'
        go_simp
        with_reducible rfl
       rotate_left
       ·simp only [n_]
        rfl
       refine js (i := 1) (N := some 39) (v := ?_) (a' := ?_) #[true, true, true, false, false, true, false, true, false, false, false] rfl rfl (ZT HT_.out HW_.out (by kernel_rfl)) (fun _ _ _ h => h) (Or.inl ⟨by rfl, ?_⟩) hHeld ?_ ?_
       rotate_left
       ·rintro w' ⟨s0, s1, s2, s3⟩
        go_simp
        with_reducible rfl
       rotate_left
       ·simp only [n_]
        rfl
       refine ZD (i := 3) (N := some 41) (v := ?_) (a' := ?_) #[true, true, true, true, false, true, false, true, false, false, false] rfl rfl (Zw HT_.out (by kernel_rfl)) (fun _ _ _ h => h) (Or.inl ⟨by rfl, ?_⟩) ?_ ?_
       rotate_left
       ·intro w'
        go_simp
        with_reducible rfl
       rotate_left
       ·simp only [n_]
        rfl
       refine js (i := 4) (N := some 42) (v := ?_) (a' := ?_) #[true, true, true, true, true, true, false, true, false, false, false] rfl rfl (ZT HT_.out HW_.out (by kernel_rfl)) (fun _ _ _ h => h) (Or.inl ⟨by rfl, ?_⟩) hHeld ?_ ?_
       rotate_left
       ·rintro w' ⟨s0, s1, s2, s3⟩
        go_simp
        with_reducible rfl
       rotate_left
       ·simp only [n_]
        rfl
       refine js (i := 6) (N := some 44) (v := ?_) (a' := ?_) #[true, true, true, true, true, true, true, true, false, false, false] rfl rfl (ZT HT_.out HW_.out (by kernel_rfl)) (fun _ _ _ h => h) (Or.inl ⟨by rfl, ?_⟩) hHeld ?_ ?_
       rotate_left
       ·rintro w' ⟨s0, s1, s2, s3⟩
        go_simp
        with_reducible rfl
       rotate_left
       ·simp only [n_]
        rfl
       refine ZD (i := 8) (N := some 46) (v := ?_) (a' := ?_) #[true, true, true, true, true, true, true, true, true, false, false] rfl rfl (Zw HT_.out (by kernel_rfl)) (fun _ _ _ h => h) (Or.inl ⟨by rfl, ?_⟩) ?_ ?_
       rotate_left
       ·intro w'
        go_simp
        with_reducible rfl
       rotate_left
       ·simp only [n_]
        rfl
       refine js (i := 9) (N := some 47) (v := ?_) (a' := ?_) #[true, true, true, true, true, true, true, true, true, true, false] rfl rfl (ZT HT_.out HW_.out (by kernel_rfl)) (fun _ _ _ h => h) (Or.inl ⟨by rfl, ?_⟩) hHeld ?_ ?_
       rotate_left
       ·rintro w' ⟨s0, s1, s2, s3⟩
        go_simp
        with_reducible rfl
       rotate_left
       ·simp only [n_]
        rfl
       refine jV (i := 10) (N := some 48) #[true, true, true, true, true, true, true, true, true, true, true] rfl rfl (ja HT_.out (by kernel_rfl)) (by decide) (fun K hK => ?_)
       refine Jt Tryd.func26 (by kernel_rfl) rfl #[.slice zB (ZF l0_1 x7_2).length zC, .slice zD (ZF l0_1 x6_1).length zE] (by rfl) rfl rfl (by (try simp only [List.map_toArray, List.map_cons, List.map_nil]); rfl) ?_
       with_reducible refine (ZZ.calls kj15 _ _ (ZF l0_1 x7_2) _ _ (ZF l0_1 x6_1) true _ ?side1 ?side2 ?side3 ?side4 A25.out).mono ?_
       (case side1 => repeat (exact (Kd.jm zu.out HB.out)))
       (case side2 => exact zV.out)
       (case side3 => repeat (exact (Kd.jm zx.out HB.out)))
       (case side4 => exact zW.out)
       rintro e w' ⟨rfl, ⟨nd, rfl⟩⟩
       refine ⟨_, rfl, ?_⟩
       refine hK.out _ _ ⟨(Z1 z0.out 0).trans rfl, (Z1 z0.out 1).trans rfl, ((HB.out.cell (World.block_lt_of_cell? w _ zk)).trans zk), ((HB.out.cell (World.block_lt_of_cell? w _ zl)).trans zl)⟩ (fun hHeld => ?_)
       clear hK K
       refine jo (a' := ?_) ?_ ?_
       rotate_left
       ·show Act.put _ (some 48) _ = _
        simp only [n_]
        rfl
       refine JE (Ji HT_.out (by kernel_rfl)) ?_
       have m0_ := Z0.mk (Kd.Jp HO_4.out nd)
       have m1_ := Z0.mk (jL z0.out nd)
       have m2_ := Z0.mk (jL z1.out nd)
       have m3_ := Z0.mk (ZX HB.out nd)
       clear HO_4 z0 z1 HB
       have HO_4 := m0_
       have z0 := m1_
       have z1 := m2_
       have HB := m3_
       clear m0_ m1_ m2_ m3_
       generalize w30.drewN nd = w30z at HO_4 z0 z1 HB ⊢
       have yu : 0 ≤ (x7_2 : Int) := of_decide_eq_true (by (with_reducible assumption))
       have yv : x7_2 < (x4_2.length : Int) := of_decide_eq_true (by (with_reducible assumption))
       obtain ⟨yU, j4, yz⟩ := Kd.ZG (Kd.Zg HO_4.out).2.2 x7_2 yu yv
       obtain rfl : (⟨go12, 0, none⟩ : Addr) = yU := (by injection j4)
       (simp only [add_plain] at yz)
       replace yu := eq_true yu
       replace yv := eq_true yv
       have p29 : 0 ≤ (x6_1 : Int) := of_decide_eq_true (by (with_reducible assumption))
       have q29 : (x6_1 : Int) < ((x4_2.length : Int) : Int) := of_decide_eq_true (by (with_reducible assumption))
       obtain ⟨hx29_0, hf29_0⟩ := Kd.jZ 0 HO_4.out (x6_1 : Int) p29 q29
       replace p29 := eq_true p29
       replace q29 := eq_true q29
       obtain ⟨hy31_, hz31_⟩ := Kd.jZ 0 HO_4.out (x6_1 : Int) (of_decide_eq_true (by (with_reducible assumption))) (of_decide_eq_true (by (with_reducible assumption)))
       have HP31 := Kd.Je HO_4.out (x6_1 : Int) (rd x4_2 x7_2)
       try go_wp2_with (((with_reducible refine jS (t := 3) (p := 55) rfl ?_); refine jF (t := 3) (p := 55) (v := ?vo_w32) (w1 := (w30z.setCell ⟨go12, (x6_1 : Int).toNat, none⟩ (.int .i64 (rd x4_2 x7_2)))) ?hg ?ho ?hn ?hr ?_; (case ho => rfl); (case hg => rfl); (case hn => rfl); (case hr => (go_simp; done)); intro w32 hw; have hg : w30z.grownBy w32 (some go12) := (by rw [hw]; exact HP31.2); have hp_ : Kd.R (Kd.int .i64) 3 w32 w.heap.size (fun _ => True) (.slice (some ⟨go12, 0, none⟩) x4_2.length co13) yt := (by rw [hw, yT.out]; exact HP31.1); clear HP31; have n0_ := Z0.mk (hp_); have n1_ := Z0.mk (Zx (g := z6) (o := .cells #[.slice A0_0 l0_0.length c0_0, .slice (some zm) l0_1.length c0_1] 30 (0, 0)) (z0.out) hg (Kd.jK HO_4.out z0.out (by decide))); have n2_ := Z0.mk (Zx (g := z5) (o := .cells #[.slice none 0 0, .slice none 0 0] 30 (0, 0)) (z1.out) hg (Kd.jK HO_4.out z1.out (by decide))); have n3_ := Z0.mk ((by rw [hw]; exact ZB HB.out GB12.out : Below w.heap.size w w32)); clear HO_4; clear z0; clear z1; clear HB; have HO_4 := n0_; have z0 := n1_; have z1 := n2_; have HB := n3_; clear n0_ n1_ n2_ n3_; clear hg hw hp_))
       (try simp only [← hl4_2])
       go_roundg kj15
       case measure => have := HK1.out; have := HK2.out; have := HJ15.out; omega
       case rel => exact ⟨(yt), (wrap64 (x7_2 + 1)), (by rfl), H', ⟨by have := HK1.out; have := HK2.out; have := HJ15.out; omega⟩, ⟨by (try simp only [hl4_2]); exact HO_4.out⟩, ⟨by (try simp only [hl4_2]); exact z0.out⟩, ⟨by (try simp only [hl4_2]); exact z1.out⟩, ⟨HB.out⟩⟩
end Go.Proofs.YthpnipdoehbiaaaDoor.Pr
